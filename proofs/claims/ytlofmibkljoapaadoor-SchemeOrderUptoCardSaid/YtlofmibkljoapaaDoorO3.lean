/- Part 3 of the proof. Conditions: none. -/
import Derived.Test.YtlofmibkljoapaaDoorO2
import Derived.Orders
import Derived.Test.YtlofmibkljoapaaDoorO0
set_option linter.all false
set_option linter.unusedVariables false
set_option linter.unusedSimpArgs false
section
namespace Go.Proofs.YtlofmibkljoapaaDoor.Vm
open Go.RowKit
set_option maxRecDepth 100000
set_option maxHeartbeats 4000000
section
def a5V:Op->Bool
 | .alloc _=>false
 | .box _ _=>false
 | .store _ _ _=>false
 | .buildSlice _ 0 _=>false
 | .call ⟨.builtin .append,_,_⟩=>false
 | .makeSlice _ _ _=>false
 | .makeMap _ _=>false
 | .mapUpdate _ _ _ _=>false
 | _=>true
theorem C8 {a:Ar} {s:S} {dst:Option Nat} {K:S->Prop} {op:Op} (h:a5V op=true):step a false s dst K op=stepC a s.get s.o (λv=>K (s.put dst v)) op:=by
 unfold step
 split <;> first|rfl|cases h
def Pt (T:(V->Prop)->Prop):Prop:=∀K,T K->∃v,K v/\∀K',K' v->T K'
section
variable {os:List O} {t i:Nat} {x y z:V}
theorem a0D:Pt λK=>B1 a7 os K t x:=by
 intro K h;simp only[B1] at h ⊢
 repeat' split at h
 all_goals first|exact h.elim|exact⟨_,h,λK' hk=>by simp only[*]⟩
theorem b3A:Pt λK=>b01 K x y z:=by
 intro K h;simp only[b01] at h ⊢
 repeat' split at h
 all_goals first|exact h.elim|exact⟨_,h,λK' hk=>by simp only[*]⟩
theorem b0L:Pt λK=>M7 K t i x:=by
 intro K h;simp only[M7] at h ⊢
 repeat' split at h
 all_goals first|exact h.elim|exact⟨_,h,λK' hk=>by simp only[*]⟩
theorem b3B:Pt λK=>b00 K t i x:=by
 intro K h;simp only[b00] at h ⊢
 repeat' split at h
 all_goals first|exact h.elim|exact⟨_,h,λK' hk=>by simp only[*]⟩
theorem a4D:Pt λK=>o8 a7 os K t x y:=by
 intro K h;simp only[o8,T5] at h ⊢
 repeat' split at h
 all_goals first|exact h.elim|exact⟨_,h,λK' hk=>by simp only[*]⟩
theorem b3C:Pt λK=>a2z a7 K t x y:=by
 intro K h;simp only[a2z] at h ⊢
 repeat' split at h
 all_goals first|exact h.elim|exact⟨_,h,λK' hk=>by simp only[*]⟩
theorem c0h {op:BinOp} {x y:Value}:Pt λK=>a1t a7 op x y K:=by
 intro K h;simp only[a1t] at h ⊢
 split at h <;> try exact h.elim
 ·split at h
  ·rename_i hb;unfold b9P at h ⊢
   split at h <;> try exact h.elim
   rename_i hr;exact⟨_,h,λK' hk=>by first|exact hk|(rw[hb,hr];exact hk)⟩
  split at h <;> try exact h.elim
  rename_i hk;simp only[binInt] at h ⊢
  split at h <;> first|exact h.elim|exact⟨_,h,λK' hk'=>by simp only[*]⟩|exact⟨_,h.2,λK' hk'=>by first|exact⟨h.1,hk'⟩|(simp only[hk];exact⟨h.1,hk'⟩)|(rw[hk];exact⟨h.1,hk'⟩)|(split <;> simp_all)⟩
 ·simp only[binStr] at h ⊢
  split at h <;> first|exact h.elim|exact⟨_,h,λK' hk'=>by simp only[*]⟩|exact⟨_,h.2,λK' hk'=>⟨h.1,hk'⟩⟩
theorem T8 {b:Bool} {op:BinOp}:Pt λK=>a2w b K op:=by
 intro K h;simp only[a2w] at h ⊢
 split at h <;> first|exact h.elim|exact⟨_,h,λK' hk'=>hk'⟩
theorem c0i {op:BinOp}:Pt λK=>a8h a7 op t x y K:=by
 intro K h;simp only[a8h] at h ⊢
 split at h <;> try exact h.elim
 ·split at h
  ·split at h <;> try exact h.elim
   exact T8 _ h
  ·split at h <;> try exact h.elim
   exact T8 _ h
  ·exact c0h _ h
 ·split at h <;> try exact h.elim
  split at h <;> try exact h.elim
  exact T8 _ h
 ·split at h <;> try exact h.elim
  split at h <;> try exact h.elim
  exact T8 _ h
 ·split at h <;> try exact h.elim
  obtain⟨h1,h2⟩:=h;obtain⟨v,h3,h4⟩:=T8 _ h2;exact⟨v,h3,λK' hk=>⟨h1,h4 _ hk⟩⟩
 ·split at h <;> try exact h.elim
  exact T8 _ h
 ·split at h <;> try exact h.elim
  split at h <;> try exact h.elim
  split at h <;> try exact h.elim
  exact T8 _ h
theorem b3D {ok:Bool}:Pt λK=>a5P a7 os K t ok x y:=by
 intro K h;simp only[a5P] at h ⊢
 repeat' split at h
 all_goals first|exact h.elim|skip
 all_goals simp only[b03,a9r] at h ⊢
 all_goals repeat' split at h
 all_goals first|exact h.elim|exact⟨_,h,λK' hk=>by simp only[*]⟩
theorem a9C {mx:Bool} {l:List V}:Pt λK=>a9s a7 K mx l:=by
 intro K h;simp only[a9s] at h ⊢
 repeat' split at h
 all_goals first|exact h.elim|exact⟨_,h,λK' hk=>by simp only[*]⟩
theorem b99:Pt λK=>nnV K x:=by
 intro K h;simp only[nnV] at h ⊢
 split at h <;> first|exact h.elim|exact⟨_,h,λK' hk'=>hk'⟩
theorem b9A {op:UnOp}:Pt λK=>unV a7 op x K:=by
 intro K h;simp only[unV] at h ⊢
 split at h <;> first|exact h.elim|exact⟨_,h,λK' hk'=>hk'⟩
theorem b3E {k0 k:TK}:Pt λK=>a5O a7 K k0 k x:=by
 intro K h;simp only[a5O,b3o,b3p,b3q,b9Q] at h ⊢
 repeat' split at h
 all_goals first|exact h.elim|exact⟨_,h,λK' hk=>by simp only[*]⟩
theorem a6W:Pt λK=>a21 K i x:=by
 intro K h;simp only[a21] at h ⊢
 repeat' split at h
 all_goals first|exact h.elim|exact⟨_,h,λK' hk=>by simp only[*]⟩
theorem b6A {k:TK}:Pt λK=>lenV a7 os K k x:=by
 intro K h;simp only[lenV,b4L,b4M] at h ⊢
 repeat' split at h
 all_goals first|exact h.elim|exact⟨_,h,λK' hk=>by simp only[*]⟩
theorem b0M {g:Operand->V} {ps:List (Nat×Operand)}:Pt λK=>a1R g K t ps:=by
 intro K h;simp only[a1R] at h ⊢
 repeat' split at h
 all_goals first|exact h.elim|exact⟨_,h,λK' hk=>by simp only[*]⟩
theorem a0g {g:Operand->V} {n:Nat} {ps:List (Nat×Operand)}:Pt λK=>B2 g os K t n ps:=by
 intro K h;simp only[B2] at h ⊢
 repeat' split at h
 all_goals first|exact h.elim|exact⟨_,h,λK' hk=>by simp only[*]⟩
theorem b0N {lo hi:Option V}:Pt λK=>a2y a7 os K t x lo hi:=by
 intro K h;simp only[a2y] at h ⊢
 repeat' split at h
 all_goals first|exact h.elim|exact⟨_,h,λK' hk=>by simp only[*]⟩
theorem b3F {f:Nat} {vs:List V}:Pt λK=>callV a7 os K f vs:=by
 intro K h;simp only[callV] at h ⊢
 split at h
 ·obtain⟨q,h1,h2⟩:=h;exact⟨_,h2,λK' hk=>⟨q,h1,hk⟩⟩
 ·obtain⟨q,h1,h2⟩:=h;exact⟨_,h2,λK' hk=>⟨q,h1,hk⟩⟩
theorem b6B {vs:List V}:Pt λK=>a5h a7 os K x vs:=by
 intro K h;simp only[a5h] at h ⊢
 split at h <;> try exact h.elim
 exact b3F K h
theorem a16 {g:Operand->V} {op:Op}:Pt λK=>stepC a7 g os K op:=by
 intro K h;simp only[stepC] at h ⊢
 split at h <;> try exact h.elim
 ·exact⟨_,h,λK' hk=>hk⟩
 ·exact⟨_,h,λK' hk=>hk⟩
 ·exact b3A K h
 ·exact a0D K h
 ·exact b0L K h
 ·exact b3B K h
 ·exact a4D K h
 ·exact b3C K h
 ·exact c0i K h
 ·exact b9A K h
 ·exact b3E K h
 ·exact b0M K h
 ·exact a0g K h
 ·exact a6W K h
 ·exact b0N K h
 ·exact b6A K h
 ·exact b3F K h
 ·exact b3D K h
 ·exact a9C K h
 ·exact a9C K h
 ·exact b99 K h
 ·split at h <;> try exact h.elim
  exact⟨_,h,λK' hk=>by simp only[*]⟩
 ·exact b6B K h
end
theorem Q6 {g g':Operand->V}:∀ {l:List Operand},(∀x∈l,g x=g' x)->I6 g l=I6 g' l
 | [],_=>rfl
 | x::l,h=>by rw[I6,I6,h x (c27 ..),Q6 λy hy=>h y (c26 _ hy)]
theorem a2F {g g':Operand->V} {place:List (Nat×Nat)}:∀ {ps:List (Nat×Operand)} {l:List V},(∀p∈ps,g p.2=g' p.2)->T4 g place ps l=T4 g' place ps l
 | [],_,_=>rfl
 | (i,x)::ps,l,h=>by
  rw[T4,T4,h (i,x) (c27 ..)];have ih:=λl=>a2F (place:=place) (l:=l) λp hp=>h p (c26 _ hp)
  simp only[ih]
theorem a1o {a:Ar} {g g':Operand->V} {os:List O} {K:V->Prop} {op:Op} (h:∀x∈op.operands,g x=g' x):stepC a g os K op=stepC a g' os K op:=by
 have hm:∀l:List Operand,(∀x∈l,x∈op.operands)->∀x∈l,g x=g' x:=λl hl x hx=>h x (hl x hx)
 unfold stepC
 split
 ·rw[h _ (by simp[Op.operands])]
 ·rw[h _ (by simp[Op.operands])]
 ·rw[h _ (by simp[Op.operands]),h _ (by simp[Op.operands]),h _ (by simp[Op.operands])]
 ·rw[h _ (by simp[Op.operands])]
 ·rw[h _ (by simp[Op.operands])]
 ·rw[h _ (by simp[Op.operands])]
 ·rw[h _ (by simp[Op.operands]),h _ (by simp[Op.operands])]
 ·rw[h _ (by simp[Op.operands]),h _ (by simp[Op.operands])]
 ·rw[h _ (by simp[Op.operands]),h _ (by simp[Op.operands])]
 ·rw[h _ (by simp[Op.operands])]
 ·rw[h _ (by simp[Op.operands])]
 ·rename_i t ps;simp only[a1R];have e:∀pl l,T4 g pl ps.toList l=T4 g' pl ps.toList l:=λpl l=>a2F λp hp=>h p.2 (by simp only[Op.operands];simp;exact⟨p.1,by simpa using hp⟩)
  simp only[e]
 ·rename_i t n ps;simp only[B2];have e:∀pl l,T4 g pl ps.toList l=T4 g' pl ps.toList l:=λpl l=>a2F λp hp=>h p.2 (by simp only[Op.operands];simp;exact⟨p.1,by simpa using hp⟩)
  simp only[e]
 ·rw[h _ (by simp[Op.operands])]
 ·rename_i t x lo hi;rw[h x (by simp[Op.operands])]
  have e1:P3 g lo=P3 g' lo:=by cases lo with
   | none=>rfl
   | some y=>rw[P3,P3,h y (by simp[Op.operands])]
  have e2:P3 g hi=P3 g' hi:=by cases hi with
   | none=>rfl
   | some y=>rw[P3,P3,h y (by simp[Op.operands])]
  rw[e1,e2]
 ·rw[h _ (by simp[Op.operands,Call.operands])]
 ·rename_i f args ts;rw[Q6 λx hx=>h x (by simp[Op.operands,Call.operands];right;simpa using hx)]
 ·rw[h _ (by simp[Op.operands]),h _ (by simp[Op.operands])]
 ·rename_i args ts;rw[Q6 λx hx=>h x (by simp[Op.operands,Call.operands];simpa using hx)]
 ·rename_i args ts;rw[Q6 λx hx=>h x (by simp[Op.operands,Call.operands];simpa using hx)]
 ·rw[h _ (by simp[Op.operands])]
 ·rename_i f cs;rw[Q6 λx hx=>h x (by simp[Op.operands];simpa using hx)]
 ·rename_i i args ts;rw[Q6 λx hx=>h x (by simp[Op.operands,Call.operands];right;simpa using hx),h (.tmp i) (by simp[Op.operands,Call.operands])]
 ·rfl
theorem a6X:∀ {l:List Operand} {t:Nat},Operand.tmp t∈l->t∈tmps l
 | [],t,h=>by simp at h
 | x::l,t,h=>by
  rcases c2C.1 h with rfl|h
  ·simp[tmps]
  ·have h2:=a6X h;cases x <;> simp[tmps,h2]
def j6 (a:Ar) (dsts:List (Option Nat)) (o:Oper) (s:S) (K:S->Prop):Prop:=run a false dsts [o] s K
theorem a17 {l:List V} {i j:Nat} {v:V} (h:i≠j):m8 (G7 l i v) j=m8 l j:=by
 rw[N7]
 rcases a24 l j with h1|⟨h1,h2⟩
 ·rcases a24 (l.set i v) j with h3|⟨h3,h4⟩
  ·rw[c2L h,h1] at h3;injection h3 with h3;exact h3.symm
  ·rw[c2K] at h3;have:=(c25.1 h1).1;omega
 ·rcases a24 (l.set i v) j with h3|⟨h3,h4⟩
  ·rw[c2L h] at h3;have:=(c25.1 h3).1;omega
  ·rw[h4,h2]
theorem a2G {s:S} {d e:Option Nat} {u v:V} (h:∀x,d=some x->e≠some x):(s.put d u).put e v=(s.put e v).put d u:=by
 cases d with
 | none=>rfl
 | some x =>
  cases e with
  | none=>rfl
  | some y =>
   have hne:x≠y:=λe=>h x rfl (by rw[e])
   simp only[S.put,N7]
   congr 1
   exact List.set_comm _ _ hne
def a18 (l:List Nat) (s s':S):Prop:=s'.o=s.o/\∀t∈l,m8 s'.t t=m8 s.t t
theorem I8 {l:List Nat} {s:S} {d:Option Nat} {v:V} (h:∀x,d=some x->x∉l):a18 l s (s.put d v):=by
 cases d with
 | none=>exact⟨rfl,λ_ _=>rfl⟩
 | some x=>exact⟨rfl,λt ht=>a17 λe=>h x rfl (e ▸ ht)⟩
theorem a18.symm {l:List Nat} {s s':S} (h:a18 l s s'):a18 l s' s:=⟨h.1.symm,λt ht=>(h.2 t ht).symm⟩
theorem a18.ops {l:List Nat} {s s':S} (h:a18 l s s') {xs:List Operand} (hx:∀t∈tmps xs,t∈l):∀x∈xs,s'.get x=s.get x:=λx hxm=>by
 cases x with
 | tmp t=>exact h.2 t (hx t (a6X hxm))
 | const v=>rfl
 | global g=>rfl
 | func f=>rfl
theorem a6Y {dsts:List (Option Nat)} {s s':S} {j:Nat} {K:Option Bool->Prop} (h:∀d,getD dsts j=some d->m8 s'.t d=m8 s.t d):guard s' dsts j K=guard s dsts j K:=by
 unfold guard;cases hd:getD dsts j with
 | none=>rfl
 | some d=>simp only[h d hd]
theorem K9 {dsts:List (Option Nat)} {s:S} {j:Nat} {K:Option Bool->Prop} (h:guard s dsts j K):∃c,K c/\∀K',K' c->guard s dsts j K':=by
 unfold guard at h ⊢
 repeat' split at h
 all_goals first|exact h.elim|exact⟨_,h,λK' hk=>by simp only[*]⟩
theorem a6Z {dsts:List (Option Nat)} {o:Oper} (hc:a5V o.op=true) {s:S} {K:S->Prop} (h:j6 a7 dsts o s K):∃v,K (s.put o.dst v)/\∀s' K',a18 (looks dsts o) s s'->K' (s'.put o.dst v)->j6 a7 dsts o s' K':=by
 obtain⟨dst,op,type,pos,after,gd⟩:=o
 have hst:∀ {s s':S} {K:S->Prop} {l:List Nat},(∀t∈tmps op.operands.toList,t∈l)->a18 l s s'->step a7 false s dst K op->∃v,K (s.put dst v)/\∀K',K' (s'.put dst v)->step a7 false s' dst K' op:=λ{s s' K l} hl hs h=>by
  rw[C8 hc] at h;obtain⟨v,h1,h2⟩:=a16 _ h;refine⟨v,h1,λK' hk=>?_⟩;rw[C8 hc,hs.1];have e:=a1o (a:=a7) (os:=s.o) (K:=λv=>K' (s'.put dst v)) (op:=op) (g:=s.get) (g':=s'.get) λx hx=>((hs.ops (xs:=op.operands.toList) hl) x (by simpa using hx)).symm
  rw[<-e];exact h2 _ hk
 cases gd with
 | none =>
  have hl:∀t∈tmps op.operands.toList,t∈looks dsts ⟨dst,op,type,pos,after,none⟩:=λt ht=>by simp[looks,ht]
  have h':step a7 false s dst K op:=h;rw[C8 hc] at h';obtain⟨v,h1,h2⟩:=a16 _ h';refine⟨v,h1,λs' K' hs hk=>?_⟩;show step a7 false s' dst K' op;rw[C8 hc,hs.1];have e:=a1o (a:=a7) (os:=s.o) (K:=λv=>K' (s'.put dst v)) (op:=op) (g:=s.get) (g':=s'.get) λx hx=>((hs.ops (xs:=op.operands.toList) hl) x (by simpa using hx)).symm
  rw[<-e];exact h2 _ hk
 | some jb =>
  obtain⟨j,b⟩:=jb;have hl:∀t∈tmps op.operands.toList,t∈looks dsts ⟨dst,op,type,pos,after,some (j,b)⟩:=λt ht=>by simp[looks,ht]
  have hg:∀s',a18 (looks dsts ⟨dst,op,type,pos,after,some (j,b)⟩) s s'->∀d,getD dsts j=some d->m8 s'.t d=m8 s.t d:=λs' hs d hd=>hs.2 d (by simp[looks,hd])
  have h':guard s dsts j (fun
   | some c=>match bEq c b with
    | true=>step a7 false s dst K op
    | false=>K (s.put dst U7)
   | none=>K (s.put dst U7)):=h
  have a1T:∀(c:Option Bool) {s':S} {K':S->Prop},(∀K',K' c->guard s dsts j K')->a18 (looks dsts ⟨dst,op,type,pos,after,some (j,b)⟩) s s'->(match c with
   | some c=>match bEq c b with
    | true=>step a7 false s' dst K' op
    | false=>K' (s'.put dst U7)
   | none=>K' (s'.put dst U7))->j6 a7 dsts ⟨dst,op,type,pos,after,some (j,b)⟩ s' K':=λc {s' K'} h2 hs hx=>by
   show guard s' dsts j (fun
    | some c=>match bEq c b with
     | true=>step a7 false s' dst K' op
     | false=>K' (s'.put dst U7)
    | none=>K' (s'.put dst U7))
   rw[a6Y (hg s' hs)];exact h2 _ hx
  obtain⟨c,h1,h2⟩:=K9 h';cases c with
  | none=>exact⟨U7,h1,λs' K' hs hk=>a1T none h2 hs hk⟩
  | some c =>
   cases hb:bEq c b with
   | false =>
    simp only[hb] at h1;exact⟨U7,h1,λs' K' hs hk=>a1T (some c) h2 hs (by simp only[hb];exact hk)⟩
   | true =>
    simp only[hb] at h1;rw[C8 hc] at h1;obtain⟨v,h3,h4⟩:=a16 _ h1;refine⟨v,h3,λs' K' hs hk=>a1T (some c) h2 hs ?_⟩;simp only[hb];rw[C8 hc,hs.1];have e:=a1o (a:=a7) (os:=s.o) (K:=λv=>K' (s'.put dst v)) (op:=op) (g:=s.get) (g':=s'.get) λx hx=>((hs.ops (xs:=op.operands.toList) hl) x (by simpa using hx)).symm
    rw[<-e];exact h4 _ hk
theorem b0O {a:Ar} {g:Operand->V} {os os':List O} {K:V->Prop} {op:Op} (h:a5w op=true):stepC a g os K op=stepC a g os' K op:=by
 unfold stepC
 split <;> first|rfl|cases h
theorem a7a {op:Op} (h:a5w op=true):a5V op=true:=by
 cases op <;> first|rfl|cases h
def b0P (l:List Nat) (s s':S):Prop:=∀t∈l,m8 s'.t t=m8 s.t t
theorem a0h (t:List V) (o o':List O) (d:Option Nat) (v:V):(⟨(S.put ⟨t,o⟩ d v).t,o'⟩:S)=S.put ⟨t,o'⟩ d v:=by cases d <;> rfl
theorem b4Z {dsts:List (Option Nat)} {x:Oper} (hb:a5w x.op=true) {t:List V} {o o':List O} {K:S->Prop} (h:j6 a7 dsts x ⟨t,o⟩ (λr=>K ⟨r.t,o'⟩)):j6 a7 dsts x ⟨t,o'⟩ K:=by
 obtain⟨dst,op,type,pos,after,gd⟩:=x
 have hst:step a7 false ⟨t,o⟩ dst (λr=>K ⟨r.t,o'⟩) op->step a7 false ⟨t,o'⟩ dst K op:=λh=>by
  rw[C8 (a7a hb)] at h ⊢;simp only[a0h] at h;rw[b0O (os':=o') hb] at h;exact h
 cases gd with
 | none=>exact hst h
 | some jb =>
  obtain⟨j,b⟩:=jb
  have h':guard ⟨t,o⟩ dsts j (fun
   | some c=>match bEq c b with
    | true=>step a7 false ⟨t,o⟩ dst (λr=>K ⟨r.t,o'⟩) op
    | false=>K ⟨(S.put ⟨t,o⟩ dst U7).t,o'⟩
   | none=>K ⟨(S.put ⟨t,o⟩ dst U7).t,o'⟩):=h
  show guard ⟨t,o'⟩ dsts j (fun
   | some c=>match bEq c b with
    | true=>step a7 false ⟨t,o'⟩ dst K op
    | false=>K (S.put ⟨t,o'⟩ dst U7)
   | none=>K (S.put ⟨t,o'⟩ dst U7))
  obtain⟨c,h1,h2⟩:=K9 h';refine(a6Y (s:=⟨t,o⟩) (s':=⟨t,o'⟩) λd _=>rfl).mpr (h2 _ ?_);cases c with
  | none=>rw[a0h] at h1;exact h1
  | some c =>
   cases hb:bEq c b with
   | true=>simp only[hb] at h1 ⊢;exact hst h1
   | false=>simp only[hb,a0h] at h1 ⊢;exact h1
theorem a7b {dsts:List (Option Nat)} {x:Oper} (hb:a5w x.op=true) {s:S} {K:S->Prop} (h:j6 a7 dsts x s K):∃v,K (s.put x.dst v)/\∀s' K',b0P (looks dsts x) s s'->K' (s'.put x.dst v)->j6 a7 dsts x s' K':=by
 obtain⟨v,h1,h2⟩:=a6Z (a7a hb) h;refine⟨v,h1,λs' K' hs hk=>?_⟩;exact b4Z hb (t:=s'.t) (o:=s.o) (o':=s'.o) (h2 ⟨s'.t,s.o⟩ _ ⟨rfl,hs⟩ (by rw[a0h];exact hk))
theorem a3r {s:S} {K:S->Prop} {t:Nat} {y x:V} (h:E3 a7 s K t y x):∃o',K ⟨s.t,o'⟩/\∀(t':List V) (K':S->Prop),K' ⟨t',o'⟩->E3 a7 ⟨t',s.o⟩ K' t y x:=by
 simp only[E3] at h ⊢
 repeat' split at h
 all_goals first|exact h.elim|exact⟨_,h,λt' K' hk=>by simp only[*]⟩
def b2n:Op->Bool
 | .store _ _ _=>true
 | _=>false
theorem b0Q {dsts:List (Option Nat)} {y:Oper} (hb:(b2n y.op && y.guard.isNone && y.dst.isNone)=true) {s:S} {K:S->Prop} (h:j6 a7 dsts y s K):∃o',K ⟨s.t,o'⟩/\∀s' K',s'.o=s.o->b0P (looks dsts y) s s'->K' ⟨s'.t,o'⟩->j6 a7 dsts y s' K':=by
 obtain⟨dst,op,type,pos,after,gd⟩:=y;cases gd <;> cases dst <;> cases op <;> first|(simp[b2n] at hb;done)|skip
 rename_i t x z;have h':E3 a7 s K t (s.get z) (s.get x):=h;obtain⟨o',h1,h2⟩:=a3r h';refine⟨o',h1,λs' K' ho hs hk=>?_⟩;show E3 a7 s' K' t (s'.get z) (s'.get x);have hS:a18 (looks dsts ⟨none,.store t x z,type,pos,after,none⟩) s ⟨s'.t,s.o⟩:=⟨rfl,hs⟩;have hg:∀y∈(Op.store t x z).operands.toList,(⟨s'.t,s.o⟩:S).get y=s.get y:=hS.ops λu hu=>by simp[looks,hu]
 have e1:s'.get z=s.get z:=by
  have:=hg z (by simp[Op.operands]);cases z <;> first|rfl|exact this
 have e2:s'.get x=s.get x:=by
  have:=hg x (by simp[Op.operands]);cases x <;> first|rfl|exact this
 rw[e1,e2];have:=h2 s'.t K' hk;rw[<-ho] at this;exact this
def b2o (dsts:List (Option Nat)) (x y:Oper):Bool:=a5V x.op && a5V y.op && K7 x.dst (looks dsts y) && K7 y.dst (looks dsts x) && (x.dst.isNone || x.dst != y.dst)
theorem H1 {d:Option Nat} {l:List Nat} (h:K7 d l=true):∀x,d=some x->x∉l:=λx e=>by
 subst e
 simpa [K7] using h
theorem c1i {dsts:List (Option Nat)} {x y:Oper} (h:b2o dsts x y=true) {s:S} {K:S->Prop} (hx:j6 a7 dsts x s λs=>j6 a7 dsts y s K):j6 a7 dsts y s λs=>j6 a7 dsts x s K:=by
 simp only[b2o,c2B,c38,bne_iff_ne,ne_eq] at h;obtain⟨⟨⟨⟨c1,c2⟩,n1⟩,n2⟩,n3⟩:=h;obtain⟨v1,h1,h2⟩:=a6Z c1 hx;obtain⟨v2,h3,h4⟩:=a6Z c2 h1;refine h4 s _ (I8 (H1 n1)).symm (h2 _ _ (I8 (H1 n2)) ?_);rw[a2G λz hz e=>?_]
 ·exact h3
 ·rcases n3 with n3|n3
  ·rw[Option.isNone_iff_eq_none] at n3;rw[n3] at e;cases e
  ·exact n3 (by rw[e,hz])
def c0j (o:Oper):Bool:=b2n o.op && o.guard.isNone && o.dst.isNone
def a3s (dsts:List (Option Nat)) (x y:Oper):Bool:=a5w x.op && c0j y && K7 x.dst (looks dsts y)
def a83:Op->Bool
 | .call ⟨.builtin .append,⟨[_,_]⟩,⟨[_,_]⟩⟩=>true
 | _=>false
def b6C:Op->Bool
 | .move _=>true
 | .nilCheck _=>true
 | .fieldAddr _ _ _=>true
 | _=>false
def b85:Op->Bool
 | .alloc _=>true
 | _=>false
def b9B:Op->Bool
 | .move _=>true
 | .assign _=>true
 | .pick _ _ _=>true
 | .load _ _=>true
 | .fieldAddr _ _ _=>true
 | .field _ _ _=>true
 | .indexAddr _ _ _=>true
 | .index _ _ _=>true
 | .binOp _ _ _ _ _=>true
 | .unOp _ _ _=>true
 | .convert _ _ _=>true
 | .build _ _=>true
 | .extract _ _=>true
 | .nilCheck _=>true
 | _=>false
def b6D:Op->Bool
 | .buildSlice _ 0 ⟨[]⟩=>true
 | _=>false
def a9D:Op->Bool
 | .load t _=>(ty t).agg
 | .build _ _=>true
 | .buildSlice _ (_+1) _=>true
 | _=>false
def a9E (dsts:List (Option Nat)) (x y:Oper):Bool:=(a83 x.op || b6D x.op) && x.guard.isNone && x.dst.isSome && (b6C y.op || a9D y.op) && y.guard.isNone && K7 x.dst (looks dsts y) && K7 y.dst (looks dsts x) && (y.dst.isNone || x.dst != y.dst)
def b2p (dsts:List (Option Nat)) (x y:Oper):Bool:=b9B x.op && x.guard.isNone && b85 y.op && y.guard.isNone && K7 y.dst (looks dsts x) && (x.dst.isNone || x.dst != y.dst)
def c0k:Op->Bool
 | .move _=>true
 | _=>false
def b2q (dsts:List (Option Nat)) (x y:Oper):Bool:=c0k x.op && x.guard.isNone && a83 y.op && y.guard.isNone && y.dst.isSome && K7 x.dst (looks dsts y) && K7 y.dst (looks dsts x) && (x.dst.isNone || x.dst != y.dst)
def b3G (dsts:List (Option Nat)) (x y:Oper):Bool:=b2o dsts x y || a3s dsts x y || a3s dsts y x || a9E dsts x y || b2p dsts x y || b2q dsts x y
def klT:Option Nat->List V->List V
 | none,t=>t
 | some k,t=>G9 k t
def klV:Option Nat->V->V
 | none,v=>v
 | some k,v=>C2 k v
theorem a7c (k:Nat):∀l:List O,j2 (y8 k l)=j2 l:=λl=>by rw[m7,m7,Q5]
theorem a4E {o:O}:∀ {l:List O} {k:Nat},k≠j2 l->m5 (o6 l o) k=m5 l k
 | [],0,h=>absurd rfl h
 | [],k+1,_=>rfl
 | _::_,0,_=>rfl
 | _::l,k+1,h=>a4E (l:=l) λe=>h (by rw[j2,e])
theorem a3E {o:O}:∀ {l:List O},m5 (o6 l o) (j2 l)=o
 | []=>rfl
 | _::l=>a3E (l:=l)
def a3U (k:Nat) (os o':List O):Prop:=(∀j,j≠k->m5 o' j=m5 (y8 k os) j)/\∀cs,m5 o' k≠.box cs
theorem a5W {os:List O} {z:Bool} {e:Nat} {r:List (List D)}:a3U (j2 os) os (o6 (y8 (j2 os) os) (.row z e r)) :=
 ⟨λj hj=>a4E (by rw[a7c];exact hj),λcs h=>by
  have h1:m5 (o6 (y8 (j2 os) os) (.row z e r)) (j2 (y8 (j2 os) os))=_:=a3E;rw[a7c,h] at h1
  cases h1⟩
theorem a4F {o:O}:∀ {l:List O} {m j:Nat},j≠m->m5 (A2 l m o) j=m5 l j
 | [],m,j,_=>rfl
 | _::_,0,0,h=>absurd rfl h
 | _::_,0,_+1,_=>rfl
 | _::_,_+1,0,_=>rfl
 | _::l,m+1,j+1,h=>a4F (l:=l) λe=>h (by rw[e])
theorem a4G {o:O}:∀ {l:List O} {m:Nat},m5 (A2 l m o) m=o\/m5 (A2 l m o) m=.dead
 | [],m=>.inr (by cases m <;> rfl)
 | _::_,0=>.inl rfl
 | _::l,m+1=>a4G (l:=l)
theorem b2r {k:Nat} {os:List O} {z:Bool} {e:Nat} {r:List (List D)}:a3U k os (A2 (y8 k os) k (.row z e r)) :=
 ⟨λj hj=>a4F hj,λcs h=>by
  rcases a4G (l:=y8 k os) (m:=k) (o:=.row z e r) with h1|h1 <;> rw[h1] at h <;> cases h⟩
theorem a7d {s:S} {d:Nat} {K:S->Prop} {t:Nat} {x y:V} (h:A9 a7 false s (some d) K t x y):∃(k:Nat) (o':List O),a3U k s.o o'/\K (S.put ⟨G9 k s.t,o'⟩ (some d) (.own k))/\∀(t':List V) (K':S->Prop),K' (S.put ⟨G9 k t',o'⟩ (some d) (.own k))->A9 a7 false ⟨t',s.o⟩ (some d) K' t x y:=by
 unfold A9 at h
 repeat' split at h
 all_goals first|exact h.elim|skip
 ·rename_i e he _ sz ys hys _ hsz _;obtain⟨h1,z,h2⟩:=h;refine⟨j2 s.o,o6 (y8 (j2 s.o) s.o) (.row z e ys),a5W,h2,λt' K' hk=>?_⟩;unfold A9;simp only[he,hys,hsz];exact⟨h1,z,hk⟩
 ·rename_i e he _ sz ys hys _ hsz _ k _ z e' xs hok _ hee;obtain⟨h1,h2⟩:=h;refine⟨k,_,b2r,h2,λt' K' hk=>?_⟩;unfold A9;simp only[he,hys,hsz,hok,hee];exact⟨h1,hk⟩
theorem a85 {s:S} {d:Nat} {K:S->Prop} {t:Nat} {x y:V} (h:A9 a7 false s (some d) K t x y):∃(kk:Option Nat) (o':List O) (k':Nat),K (S.put ⟨klT kk s.t,o'⟩ (some d) (.own k'))/\∀(t':List V) (K':S->Prop),K' (S.put ⟨klT kk t',o'⟩ (some d) (.own k'))->A9 a7 false ⟨t',s.o⟩ (some d) K' t x y:=by
 obtain⟨k,o',_,h1,h2⟩:=a7d h;exact⟨some k,o',k,h1,h2⟩
theorem c0l {s:S} {d:Nat} {K:S->Prop} {op:Op} (hb:(a83 op || b6D op)=true) (h:step a7 false s (some d) K op):∃(k:Nat) (o':List O),a3U k s.o o'/\K (S.put ⟨G9 k s.t,o'⟩ (some d) (.own k))/\∀(t':List V) (K':S->Prop),(∀z∈op.operands,S.get ⟨t',s.o⟩ z=s.get z)->K' (S.put ⟨G9 k t',o'⟩ (some d) (.own k))->step a7 false ⟨t',s.o⟩ (some d) K' op:=by
 cases ha:a83 op with
 | true =>
  unfold a83 at ha
  split at ha
  ·rename_i p q t t';have h':A9 a7 false s (some d) K t (s.get p) (s.get q):=h;obtain⟨k,o',h1,h2,h3⟩:=a7d h';refine⟨k,o',h1,h2,λt2 K' hz hk=>?_⟩;show A9 a7 false ⟨t2,s.o⟩ (some d) K' t (S.get ⟨t2,s.o⟩ p) (S.get ⟨t2,s.o⟩ q);rw[hz p (by simp[Op.operands,Call.operands]),hz q (by simp[Op.operands,Call.operands])];exact h3 _ _ hk
  ·cases ha
 | false =>
  rw[ha,Bool.false_or] at hb;unfold b6D at hb
  split at hb
  ·rename_i t;have h':(match (ty t).elem with|some e=>a7.new e λz=>K ((s.fresh false (.row z e [])).put (some d) (.own (j2 s.o)))|none=>False):=h;cases he:(ty t).elem with
   | none=>rw[he] at h';exact h'.elim
   | some e =>
    rw[he] at h';obtain⟨z,h'⟩:=h';refine⟨j2 s.o,_,a5W,h',λt2 K' _ hk=>?_⟩;show (match (ty t).elem with|some e=>a7.new e λz=>K' ((S.fresh false ⟨t2,s.o⟩ (.row z e [])).put (some d) (.own (j2 s.o)))|none=>False);rw[he];exact⟨z,hk⟩
  ·cases hb
theorem a7e {k:Nat}:∀(n:Nat) (l:List V),K3 n (w7 k l)=w7 k (K3 n l)
 | 0,l=>rfl
 | n+1,[]=>rfl
 | n+1,x::l=>a7e n l
theorem a7f {k:Nat}:∀ {n:Nat} {l l':List V},G8 n (w7 k l)=some l'->∃m,G8 n l=some m/\l'=w7 k m
 | 0,l,l',h=>by
  have h:some []=some l':=by cases l <;> exact h
  injection h with h;exact⟨[],by cases l <;> rfl,h.symm⟩
 | n+1,[],l',h=>by cases h
 | n+1,x::l,l',h=>by
  rw[w7,G8] at h;cases e:G8 n (w7 k l) with
  | none=>rw[e] at h;cases h
  | some m' =>
   rw[e] at h;injection h with h;obtain⟨m,h1,h2⟩:=a7f e;exact⟨x::m,by rw[G8,h1],by rw[<-h,h2];rfl⟩
theorem a5x {k:Nat}:∀l:List D,w7 k (ofD l)=ofD l
 | []=>rfl
 | x::l=>by rw[ofD,w7,a5x l];rfl
theorem a0E {k:Nat}:∀l:List Value,w7 k (A6 l)=A6 l
 | []=>rfl
 | v::l=>by
  rw[A6,w7,a0E l]
  congr 1
  unfold a5f
  split <;> rfl
theorem a86 {k:Nat}:∀l m:List V,w7 k (l++m)=w7 k l++w7 k m
 | [],m=>rfl
 | x::l,m=>by rw[c3C,w7,a86 l m];rfl
theorem a5X {k:Nat} (z:List Value):∀(n:Nat) (acc:List V),w7 k (a2x (A6 z) n acc)=a2x (A6 z) n (w7 k acc)
 | 0,acc=>rfl
 | n+1,acc=>by rw[a2x,a5X z n,a86,a0E];rfl
theorem a3F {k:Nat}:∀ {l:List O} {j:Nat} {cs:List V},m5 (y8 k l) j=.box cs->∃ds,m5 l j=.box ds/\cs=w7 k ds
 | [],j,cs,h=>by cases j <;> cases h
 | x::l,0,cs,h=>by
  cases x <;> rw[y8] at h <;> first|(cases h;done)|skip
  ·rename_i ds;injection h with h;exact⟨ds,rfl,h.symm⟩
 | x::l,j+1,cs,h=>by
  have h:m5 (y8 k l) j=.box cs:=by cases x <;> exact h
  exact a3F (l:=l) h
theorem a1w {k:Nat}:∀ {l:List O} {j:Nat} {z:Bool} {e:Nat} {r:List (List D)},m5 (y8 k l) j=.row z e r->m5 l j=.row z e r
 | [],j,z,e,r,h=>by cases j <;> cases h
 | x::l,0,z,e,r,h=>by
  cases x <;> first|(cases h;done)|exact h
 | x::l,j+1,z,e,r,h=>by
  have h:m5 (y8 k l) j=.row z e r:=by cases x <;> exact h
  exact a1w (l:=l) h
theorem b5a {k:Nat} {x:V} (h:b4K (a61 k x)=true):b4K x=true:=by
 cases x <;> first|rfl|exact h
theorem a87 {k:Nat}:∀ {l:List V},a2u (w7 k l)=true->a2u l=true
 | [],_=>rfl
 | x::l,h=>by
  rw[w7,a2u] at h;rw[a2u];cases e:b4K (a61 k x) with
  | false=>rw[e] at h;cases h
  | true=>rw[e] at h;rw[b5a e];exact a87 h
theorem b2s {k:Nat} {v:V} {cs:List V} (h:a0Q (C2 k v)=some cs):∃ds,a0Q v=some ds/\cs=w7 k ds:=by
 cases v with
 | ag l =>
  have h:(match a2u (w7 k l) with|true=>some (w7 k l)|false=>none)=some cs:=h;cases e:a2u (w7 k l) with
  | false=>rw[e] at h;cases h
  | true =>
   rw[e] at h;injection h with h;exact⟨l,by rw[a0Q,a87 e],h.symm⟩
 | tu l=>cases l <;> cases h
 | own j =>
  have h:a0Q (match B8 j k with|true=>.jk|false=>.own j)=some cs:=h;refine⟨[.own j],rfl,?_⟩;show cs=[match B8 j k with|true=>.jk|false=>.own j];cases e:B8 j k with
  | true=>rw[e] at h;cases h
  | false=>rw[e] at h;injection h with h;exact h.symm
 | el j i z o =>
  have h:a0Q (match B8 j k with|true=>.jk|false=>.el j i z o)=some cs:=h;refine⟨[.el j i z o],rfl,?_⟩;show cs=[match B8 j k with|true=>.jk|false=>.el j i z o];cases e:B8 j k with
  | true=>rw[e] at h;cases h
  | false=>rw[e] at h;injection h with h;exact h.symm
 | jk=>cases h
 | _=>exact⟨_,rfl,by injection h with h;exact h.symm⟩
theorem a88 {k:Nat}:∀l:List V,m9 (w7 k l)=m9 l
 | []=>rfl
 | x::l=>by rw[w7,m9,a88 l,m9]
theorem a2H {k:Nat}:∀ {l:List V} {n:Nat} {ys l':List V},splice (w7 k l) n (w7 k ys)=some l'->∃m,splice l n ys=some m/\l'=w7 k m
 | l,0,[],l',h=>by
  have h:some (w7 k l)=some l':=by cases l <;> exact h
  injection h with h;exact⟨l,by cases l <;> rfl,h.symm⟩
 | x::l,0,y::ys,l',h=>by
  rw[w7,w7,splice] at h;cases e:splice (w7 k l) 0 (w7 k ys) with
  | none=>rw[e] at h;cases h
  | some m' =>
   rw[e] at h;injection h with h;obtain⟨m,h1,h2⟩:=a2H e;exact⟨y::m,by rw[splice,h1],by rw[<-h,h2];rfl⟩
 | x::l,n+1,ys,l',h=>by
  have h:(match splice (w7 k l) n (w7 k ys) with|some t=>some (a61 k x::t)|none=>none)=some l':=by rw[<-h,w7,splice];cases splice (w7 k l) n (w7 k ys) <;> rfl
  cases e:splice (w7 k l) n (w7 k ys) with
  | none=>rw[e] at h;cases h
  | some m' =>
   rw[e] at h;injection h with h;obtain⟨m,h1,h2⟩:=a2H e;refine⟨x::m,?_,by rw[<-h,h2];rfl⟩;have h3:splice (x::l) (n+1) ys=(match splice l n ys with|some t=>some (x::t)|none=>none):=by rw[splice];cases splice l n ys <;> rfl
   rw[h3,h1]
 | [],n+1,ys,l',h=>by cases ys <;> cases h
 | [],0,y::ys,l',h=>by cases h
theorem a1Z {k:Nat} {g g':Operand->V} {place:List (Nat×Nat)}:∀ {ps:List (Nat×Operand)} {l l':List V},(∀p∈ps,g' p.2=C2 k (g p.2))->T4 g' place ps (w7 k l)=some l'->∃m,T4 g place ps l=some m/\l'=w7 k m
 | [],l,l',_,h=>⟨l,rfl,by injection h with h;exact h.symm⟩
 | (i,x)::ps,l,l',hg,h=>by
  rw[T4] at h ⊢
  split at h <;> try (cases h;done)
  rename_i off sz hp;rw[hg _ (c27 ..)] at h
  split at h <;> try (cases h;done)
  rename_i cs hc;obtain⟨ds,h1,rfl⟩:=b2s hc;rw[a88] at h;simp only[hp,h1]
  split at h <;> try (cases h;done)
  rename_i hl
  split at h <;> try (cases h;done)
  rename_i l2 h2;obtain⟨m2,h3,rfl⟩:=a2H h2;simp only[hl,h3];exact a1Z (λp hp=>hg p (c26 _ hp)) h
theorem b6E {k:Nat} {os o':List O} (hB:a3U k os o') {x:V} {y:D} (h:toD o' (a61 k x)=some y):toD os x=some y:=by
 cases x with
 | own j =>
  have h:toD o' (match B8 j k with|true=>.jk|false=>.own j)=some y:=h;cases e:B8 j k with
  | true=>rw[e] at h;cases h
  | false =>
   rw[e] at h;have h:(match m5 o' j with|.row true e rows=>some (D.sl (ty e).sz rows)|_=>none)=some y:=h;rw[hB.1 j (Y0.1 e)] at h;show (match m5 os j with|.row true e rows=>some (D.sl (ty e).sz rows)|_=>none)=some y
   split at h
   ·rename_i e2 rows h2;rw[a1w h2];exact h
   ·cases h
 | el j i z o =>
  have h:toD o' (match B8 j k with|true=>.jk|false=>.el j i z o)=some y:=h;cases e:B8 j k <;> rw[e] at h <;> cases h
 | cl f ks=>cases ks <;> exact h
 | _=>exact h
theorem a89 {k:Nat} {os o':List O} (hB:a3U k os o'):∀ {l:List V} {ds:List D},a2n o' (w7 k l)=some ds->a2n os l=some ds
 | [],ds,h=>h
 | x::l,ds,h=>by
  rw[w7,a2n] at h;rw[a2n]
  split at h <;> try (cases h;done)
  rename_i y hy
  split at h <;> try (cases h;done)
  rename_i ys hys;rw[b6E hB hy,a89 hB hys];exact h
theorem a8A {k:Nat} {v:V}:∀ {l:List V} {i:Nat},G9 k (G7 l i v)=G7 (G9 k l) i (C2 k v)
 | [],i=>rfl
 | _::_,0=>rfl
 | x::l,i+1=>by rw[G7,G9,a8A (l:=l),G9,G7]
theorem a19 {k:Nat}:∀ {l:List V} {i:Nat},m8 (G9 k l) i=C2 k (m8 l i)
 | [],i=>rfl
 | _::_,0=>rfl
 | x::l,i+1=>by rw[G9,m8,m8,a19 (l:=l)]
theorem b86 {kk:Option Nat} {v:V} {l:List V} {i:Nat}:klT kk (G7 l i v)=G7 (klT kk l) i (klV kk v):=by cases kk <;> first|rfl|exact a8A
theorem b3H {kk:Option Nat} {s:S} {d:Option Nat} {v:V} {o:List O}:(⟨klT kk (s.put d v).t,o⟩:S)=S.put ⟨klT kk s.t,o⟩ d (klV kk v):=by
 cases d with
 | none=>rfl
 | some d=>simp only[S.put,b86]
theorem b3I {kk:Option Nat} {s:S} {o:List O} (x:Operand):(⟨klT kk s.t,o⟩:S).get x=klV kk (s.get x):=by
 cases kk with
 | none=>cases x <;> rfl
 | some k =>
  cases x with
  | tmp i=>exact a19
  | const v=>cases v <;> first|rfl|(simp only[S.get,klV];unfold a5f;split <;> rfl)
  | global g=>rfl
  | func f=>rfl
theorem b87 {kk:Option Nat} {g g':Operand->V} {os os':List O} {op:Op} (hb:b6C op=true) (hg:∀x∈op.operands,g' x=klV kk (g x)) {K:V->Prop} (h:stepC a7 g' os' K op):∃v,K (klV kk v)/\∀K',K' v->stepC a7 g os K' op:=by
 have keep:∀ {v w:V},klV kk v=w->((∃k o,w=.ptr k o)\/(∃f ks,w=.cl f ks)\/(∃k i z o,w=.el k i z o)\/∃cs o,w=.ro cs o)->v=w:=λ{v w} e hw=>by
  cases kk with
  | none=>exact e
  | some k =>
   have e:C2 k v=w:=e;cases v with
   | ag cs=>subst e;simp[C2] at hw
   | tu cs=>subst e;cases cs <;> simp[C2] at hw
   | own j =>
    subst e;have e2:C2 k (.own j)=match B8 j k with|true=>.jk|false=>.own j:=rfl
    rw[e2] at hw;cases he:B8 j k <;> rw[he] at hw <;> simp at hw
   | el j i z o =>
    subst e;have e2:C2 k (.el j i z o)=match B8 j k with|true=>.jk|false=>.el j i z o:=rfl
    rw[e2] at hw ⊢;cases he:B8 j k <;> rw[he] at hw <;> simp at hw ⊢
   | _=>exact e
 cases op <;> first|cases hb;done|skip
 ·rename_i x;rw[show stepC a7 g' os' K (.move x)=K (g' x) from rfl,hg x (by simp[Op.operands])] at h;exact⟨_,h,λK' hk=>hk⟩
 ·rename_i x;rw[show stepC a7 g' os' K (.nilCheck x)=nnV K (g' x) from rfl] at h;have e:=hg x (by simp[Op.operands]);generalize g' x=w at h e;unfold nnV at h
  split at h <;> try exact h.elim
  all_goals
   have e':=keep e.symm (by simp);refine⟨g x,by rw[<-e];exact h,λK' hk=>?_⟩;show nnV K' (g x);rw[e'] at hk ⊢;exact hk
 ·rename_i t x i;rw[show stepC a7 g' os' K (.fieldAddr t x i)=M7 K t i (g' x) from rfl] at h;have e:=hg x (by simp[Op.operands]);generalize g' x=w at h e;unfold M7 at h
  split at h <;> try exact h.elim
  rename_i off sz hf
  split at h <;> try exact h.elim
  ·rename_i k o;have e':=keep e.symm (by simp);refine⟨.ptr k (o+off),by cases kk <;> exact h,λK' hk=>?_⟩;show M7 K' t i (g x);unfold M7;rw[hf,e'];exact hk
  ·rename_i cs o;have e':=keep e.symm (by simp);refine⟨.ro cs (o+off),by cases kk <;> exact h,λK' hk=>?_⟩;show M7 K' t i (g x);unfold M7;rw[hf,e'];exact hk
  ·rename_i k i' z o;have e':=keep e.symm (by simp)
   have e3:klV kk (.el k i' z (o+off))=.el k i' z (o+off):=by
    rw[e'] at e;cases kk with
    | none=>rfl
    | some j =>
     have e4:(V.el k i' z o)=match B8 k j with|true=>V.jk|false=>V.el k i' z o:=e
     show (match B8 k j with|true=>V.jk|false=>V.el k i' z (o+off))=_;cases he:B8 k j with
     | true=>rw[he] at e4;cases e4
     | false=>rfl
   refine⟨.el k i' z (o+off),by rw[e3];exact h,λK' hk=>?_⟩;show M7 K' t i (g x);unfold M7;rw[hf,e'];exact hk
theorem b88 {k:Nat} {g g':Operand->V} {os o':List O} {op:Op} (hb:a9D op=true) (hB:a3U k os o') (hg:∀x∈op.operands,g' x=C2 k (g x)) {K:V->Prop} (h:stepC a7 g' o' K op):∃v,K (C2 k v)/\∀K',K' v->stepC a7 g os K' op:=by
 unfold a9D at hb
 split at hb
 ·rename_i t x;rw[show stepC a7 g' o' K (.load t x)=B1 a7 o' K t (g' x) from rfl,hg x (by simp[Op.operands])] at h;have goal:∀ {v:V} {K':V->Prop},B1 a7 os K' t (g x)->stepC a7 g os K' (.load t x):=λh=>h
  show ∃v,K (C2 k v)/\∀K',K' v->B1 a7 os K' t (g x);generalize g x=u at h;have fin:∀ {l:List V} {K:V->Prop},(match a11 (ty t).agg (w7 k l) with|some x=>K x|none=>False)->K (C2 k (.ag l)):=λh=>by rw[hb] at h;exact h
  cases u with
  | ptr j off =>
   have h:(match m5 o' j with|.box cs=>(match G8 (ty t).sz (K3 off cs) with|some l=>(match a11 (ty t).agg l with|some x=>K x|none=>False)|none=>False)|_=>False):=h;show ∃v,K (C2 k v)/\∀K':V->Prop,K' v->(match m5 os j with|.box cs=>(match G8 (ty t).sz (K3 off cs) with|some l=>(match a11 (ty t).agg l with|some x=>K' x|none=>False)|none=>False)|_=>False)
   split at h <;> try exact h.elim
   rename_i cs hc;have hj:j≠k:=λe=>hB.2 cs (by rw[<-e];exact hc)
   rw[hB.1 j hj] at hc;obtain⟨ds,h1,rfl⟩:=a3F hc;rw[a7e] at h
   split at h <;> try exact h.elim
   rename_i l' hl;obtain⟨m,h2,rfl⟩:=a7f hl;refine⟨.ag m,fin h,λK' hk=>?_⟩;rw[h1];simp only[h2,hb];exact hk
  | ro cs off =>
   have h:(match G8 (ty t).sz (K3 off cs) with|some l=>(match a11 (ty t).agg (ofD l) with|some x=>K x|none=>False)|none=>False):=h;show ∃v,K (C2 k v)/\∀K':V->Prop,K' v->(match G8 (ty t).sz (K3 off cs) with|some l=>(match a11 (ty t).agg (ofD l) with|some x=>K' x|none=>False)|none=>False)
   split at h <;> try exact h.elim
   rename_i l hl;rw[<-a5x (k:=k)] at h;exact⟨.ag (ofD l),fin h,λK' hk=>by simp only[hb];exact hk⟩
  | el j i z off =>
   have h:B1 a7 o' K t (match B8 j k with|true=>.jk|false=>.el j i z off):=h;cases e:B8 j k with
   | true=>rw[e] at h;exact h.elim
   | false =>
    rw[e] at h;have h:(match m5 o' j with|.row _ e rows=>(match B8 (ty e).sz z with|true=>(match a7.get rows i with|some row=>(match G8 (ty t).sz (K3 off row) with|some l=>(match a11 (ty t).agg (ofD l) with|some x=>K x|none=>False)|none=>False)|none=>False)|false=>False)|_=>False):=h;show ∃v,K (C2 k v)/\∀K':V->Prop,K' v->(match m5 os j with|.row _ e rows=>(match B8 (ty e).sz z with|true=>(match a7.get rows i with|some row=>(match G8 (ty t).sz (K3 off row) with|some l=>(match a11 (ty t).agg (ofD l) with|some x=>K' x|none=>False)|none=>False)|none=>False)|false=>False)|_=>False);rw[hB.1 j (Y0.1 e)] at h
    split at h <;> try exact h.elim
    rename_i e' rows hr;rw[a1w hr];simp only
    split at h <;> try exact h.elim
    rename_i hz
    split at h <;> try exact h.elim
    rename_i row hrow
    split at h <;> try exact h.elim
    rename_i l hl;rw[<-a5x (k:=k)] at h;exact⟨.ag (ofD l),fin h,λK' hk=>by simp only[hz,hrow,hl,hb];exact hk⟩
  | own j =>
   have h:B1 a7 o' K t (match B8 j k with|true=>.jk|false=>.own j):=h;cases e:B8 j k <;> rw[e] at h <;> exact h.elim
  | tu l=>cases l <;> exact h.elim
  | _=>exact h.elim
 ·rename_i t ps;have h:a1R g' K t ps.toList:=h;have hg':∀p∈ps.toList,g' p.2=C2 k (g p.2):=λp hp=>hg _ (by simp[Op.operands];exact⟨p.1,by simpa using hp⟩)
  show ∃v,K (C2 k v)/\∀K',K' v->a1R g K' t ps.toList;unfold a1R at h ⊢;cases hk:(ty t).kind <;> simp only[hk] at h <;> first|exact h.elim|simp only[]
  ·rw[<-a0E (k:=k)] at h
   split at h <;> try exact h.elim
   rename_i l' hl;obtain⟨m,h1,rfl⟩:=a1Z hg' hl;exact⟨.ag m,h,λK' hk=>by rw[h1];exact hk⟩
  ·split at h <;> try exact h.elim
   rename_i e he
   try simp only[he]
   rw[<-a0E (k:=k)] at h
   split at h <;> try exact h.elim
   rename_i l' hl;obtain⟨m,h1,rfl⟩:=a1Z hg' hl;exact⟨.ag m,h,λK' hk=>by rw[h1];exact hk⟩
 ·rename_i t n ps;have h:B2 g' o' K t (n+1) ps.toList:=h;have hg':∀p∈ps.toList,g' p.2=C2 k (g p.2):=λp hp=>hg _ (by simp[Op.operands];exact⟨p.1,by simpa using hp⟩)
  show ∃v,K (C2 k v)/\∀K',K' v->B2 g os K' t (n+1) ps.toList;unfold B2 at h ⊢
  split at h <;> try exact h.elim
  rename_i e he;simp only[he];simp only at h;rw[show a2x (A6 (ty e).zero) (n+1) []=w7 k (a2x (A6 (ty e).zero) (n+1) []) from(a5X (k:=k) (ty e).zero (n+1) []).symm] at h
  split at h <;> try exact h.elim
  rename_i l' hl;obtain⟨m,h1,rfl⟩:=a1Z hg' hl
  split at h <;> try exact h.elim
  rename_i ds hds
  split at h <;> try exact h.elim
  rename_i rows hrows;exact⟨.d (.sl (ty e).sz rows),h,λK' hk=>by simp only[h1,a89 hB hds,hrows];exact hk⟩
 ·cases hb
theorem a8B {o:O}:∀ {l:List O} {k:Nat},m5 l k≠.dead->m5 (o6 l o) k=m5 l k
 | [],k,h=>absurd rfl h
 | _::_,0,_=>rfl
 | x::l,k+1,h=>by rw[o6,m5,m5];rw[m5] at h;exact a8B h
theorem a2I {o:O} {l:List O} {k:Nat} {x:O} (h:m5 l k=x) (hd:x≠.dead):m5 (o6 l o) k=x:=by rw[a8B (by rw[h];exact hd),h]
theorem b5b {o:O} {os:List O} {x:V} {r:Option Nat×List (List D)} (h:I5 os x=some r):I5 (o6 os o) x=some r:=by
 unfold I5 at h ⊢
 split at h
 ·exact h
 ·exact h
 ·split at h
  ·rename_i hok;rw[a2I hok (by simp)];exact h
  ·cases h
 ·cases h
theorem b6F {o:O} {os:List O} {x:V} {r:Nat×Nat×List (List D)} (h:a6h os x=some r):a6h (o6 os o) x=some r:=by
 unfold a6h at h ⊢
 split at h
 ·split at h
  ·rename_i hok;simp only[a2I hok (by simp)];exact h
  ·cases h
 ·cases h
theorem b5c {g:Operand->V} {os:List O} {o:O} {K:V->Prop} {op:Op} (hb:b9B op=true) (h:stepC a7 g os K op):stepC a7 g (o6 os o) K op:=by
 cases op <;> first|cases hb;done|exact h|skip
 ·rename_i t x;have h:B1 a7 os K t (g x):=h;show B1 a7 (o6 os o) K t (g x);generalize g x=v at h;unfold B1 at h ⊢
  split at h <;> try exact h.elim
  ·split at h <;> try exact h.elim
   rename_i hok;simp only[a2I hok (by simp)];exact h
  ·exact h
  ·split at h <;> try exact h.elim
   rename_i hok;simp only[a2I hok (by simp)];exact h
 ·rename_i t x i;have h:o8 a7 os K t (g x) (g i):=h;show o8 a7 (o6 os o) K t (g x) (g i);generalize g x=v at h;generalize g i=u at h;unfold o8 at h ⊢
  split at h <;> try exact h.elim
  split at h
  ·exact h
  ·split at h <;> try exact h.elim
   split at h
   ·exact h
   split at h
   ·rename_i hraw;rw[b6F hraw];exact h
   ·rename_i hraw
    split at h <;> try exact h.elim
    rename_i hrows
    have e:a6h (o6 os o) v=none:=by
     unfold a6h
     split
     ·rename_i k;unfold I5 at hrows;simp only at hrows
      split at hrows
      ·rename_i hok;rw[a2I hok (by simp)]
      ·cases hrows
     ·rfl
    rw[e,b5b hrows];exact h
theorem a3G (s:S) (d:Option Nat) (v:V):(s.put d v).o=s.o:=by cases d <;> rfl
theorem a5y {l:List Nat} {s:S} {d:Option Nat} {v:V} (h:K7 d l=true):b0P l s (s.put d v):=(I8 (H1 h)).2
theorem c1j {dsts:List (Option Nat)} {x y:Oper} (h:a3s dsts x y=true) {s:S} {K:S->Prop} (hx:j6 a7 dsts x s λs=>j6 a7 dsts y s K):j6 a7 dsts y s λs=>j6 a7 dsts x s K:=by
 simp only[a3s,c2B] at h;obtain⟨v,h1,h2⟩:=a7b h.1.1 hx;obtain⟨o',h3,h4⟩:=b0Q (by simpa [c0j] using h.1.2) h1;refine h4 s _ (a3G ..).symm (λt ht=>(a5y h.2 t ht).symm) (h2 _ _ (λ_ _=>rfl) ?_);rw[<-a0h s.t s.o o'];exact h3
theorem c1k {dsts:List (Option Nat)} {x y:Oper} (h:a3s dsts x y=true) {s:S} {K:S->Prop} (hy:j6 a7 dsts y s λs=>j6 a7 dsts x s K):j6 a7 dsts x s λs=>j6 a7 dsts y s K:=by
 simp only[a3s,c2B] at h;obtain⟨o',h1,h2⟩:=b0Q (by simpa [c0j] using h.1.2) hy;obtain⟨v,h3,h4⟩:=a7b h.1.1 h1;refine h4 s _ (λ_ _=>rfl) (h2 _ _ (a3G ..) (a5y h.2) ?_);rw[<-a0h s.t s.o o'] at h3;exact h3
theorem c1l {dsts:List (Option Nat)} {x y:Oper} (h:a9E dsts x y=true) {s:S} {K:S->Prop} (hx:j6 a7 dsts x s λs=>j6 a7 dsts y s K):j6 a7 dsts y s λs=>j6 a7 dsts x s K:=by
 obtain⟨xd,xop,xty,xpos,xaf,xg⟩:=x;obtain⟨yd,yop,yty,ypos,yaf,yg⟩:=y;simp only[a9E,c2B] at h;obtain⟨⟨⟨⟨⟨⟨⟨h1,h2⟩,h3⟩,h4⟩,h5⟩,h6⟩,h7⟩,h8⟩:=h;cases xg with
 | some g=>cases h2
 | none =>
  cases yg with
  | some g=>cases h5
  | none =>
   cases xd with
   | none=>cases h3
   | some d =>
    have hx':step a7 false s (some d) (λs=>j6 a7 dsts ⟨yd,yop,yty,ypos,yaf,none⟩ s K) xop:=hx;obtain⟨k,o',hB,h9,h10⟩:=c0l h1 hx';have h9:step a7 false (S.put ⟨G9 k s.t,o'⟩ (some d) (.own k)) yd K yop:=h9
    have hcalm:a5V yop=true:=by
     rcases Bool.or_eq_true_iff.1 h4 with h4|h4
     ·cases yop <;> first|rfl|cases h4
     ·unfold a9D at h4
      split at h4 <;> first|rfl|cases h4
    rw[C8 hcalm] at h9;have hl:∀t∈Vm.tmps yop.operands.toList,t∈looks dsts ⟨yd,yop,yty,ypos,yaf,none⟩:=λt ht=>by simp[looks,ht]
    have hgz:∀z∈yop.operands,(S.put ⟨G9 k s.t,o'⟩ (some d) (.own k)).get z=C2 k (s.get z):=λz hz=>by
     have hs:a18 (looks dsts ⟨yd,yop,yty,ypos,yaf,none⟩) (⟨G9 k s.t,o'⟩:S) (S.put ⟨G9 k s.t,o'⟩ (some d) (.own k)):=I8 (H1 h6);rw[(hs.ops (xs:=yop.operands.toList) hl) z (by simpa using hz)];exact b3I (kk:=some k) z
    obtain⟨v,h11,h12⟩:∃v,K (S.put (S.put ⟨G9 k s.t,o'⟩ (some d) (.own k)) yd (C2 k v))/\∀K',K' v->stepC a7 s.get s.o K' yop:=by
     rcases Bool.or_eq_true_iff.1 h4 with h4|h4
     ·exact b87 (kk:=some k) (g:=s.get) (os:=s.o) h4 hgz h9
     ·exact b88 h4 hB hgz h9
    show step a7 false s yd (λs=>j6 a7 dsts ⟨some d,xop,xty,xpos,xaf,none⟩ s K) yop;rw[C8 hcalm];refine h12 _ ?_;show step a7 false (s.put yd v) (some d) K xop;have hs2:a18 (looks dsts ⟨some d,xop,xty,xpos,xaf,none⟩) s (s.put yd v):=I8 (H1 h7);have hlx:∀t∈Vm.tmps xop.operands.toList,t∈looks dsts ⟨some d,xop,xty,xpos,xaf,none⟩:=λt ht=>by simp[looks,ht]
    have e:s.put yd v=⟨(s.put yd v).t,s.o⟩:=by cases yd <;> rfl
    rw[e];refine h10 _ _ (λz hz=>?_) ?_
    ·rw[<-e];exact hs2.ops hlx z (by simpa using hz)
    have hne:∀z,yd=some z->some d≠some z:=λz hz hz'=>by
     subst hz;rw[hz'] at h8
     simp at h8
    have e2:(⟨G9 k (s.put yd v).t,o'⟩:S)=S.put ⟨G9 k s.t,o'⟩ yd (C2 k v):=b3H (kk:=some k);rw[e2,a2G hne];exact h11
theorem c1m {dsts:List (Option Nat)} {x y:Oper} (h:b2p dsts x y=true) {s:S} {K:S->Prop} (hx:j6 a7 dsts x s λs=>j6 a7 dsts y s K):j6 a7 dsts y s λs=>j6 a7 dsts x s K:=by
 obtain⟨xd,xop,xty,xpos,xaf,xg⟩:=x;obtain⟨yd,yop,yty,ypos,yaf,yg⟩:=y;simp only[b2p,c2B] at h;obtain⟨⟨⟨⟨⟨h1,h2⟩,h3⟩,h4⟩,h5⟩,h6⟩:=h;cases xg with
 | some g=>cases h2
 | none =>
  cases yg with
  | some g=>cases h4
  | none =>
   cases yop <;> first|cases h3;done|skip
   rename_i e;have hcalm:a5V xop=true:=by cases xop <;> first|rfl|cases h1
   have hx':step a7 false s xd (λs=>j6 a7 dsts ⟨yd,.alloc e,yty,ypos,yaf,none⟩ s K) xop:=hx;rw[C8 hcalm] at hx';obtain⟨v,h7,h8⟩:=a16 _ hx';have h7:(match a2u (A6 (ty e).zero) with|true=>K (((s.put xd v).obj (a6i e)).put yd (.ptr (j2 (s.put xd v).o) 0))|false=>False):=h7;show (match a2u (A6 (ty e).zero) with|true=>j6 a7 dsts ⟨xd,xop,xty,xpos,xaf,none⟩ ((s.obj (a6i e)).put yd (.ptr (j2 s.o) 0)) K|false=>False);cases hon:a2u (A6 (ty e).zero) with
   | false=>rw[hon] at h7;exact h7.elim
   | true =>
    rw[hon] at h7;simp only at h7 ⊢;show step a7 false ((s.obj (a6i e)).put yd (.ptr (j2 s.o) 0)) xd K xop;rw[C8 hcalm,a3G];have hl:∀t∈Vm.tmps xop.operands.toList,t∈looks dsts ⟨xd,xop,xty,xpos,xaf,none⟩:=λt ht=>by simp[looks,ht]
    have hs:a18 (looks dsts ⟨xd,xop,xty,xpos,xaf,none⟩) (s.obj (a6i e)) ((s.obj (a6i e)).put yd (.ptr (j2 s.o) 0)):=I8 (H1 h5);have hops:=hs.ops (xs:=xop.operands.toList) hl;rw[a1o (g':=(s.obj (a6i e)).get) λz hz=>hops z (by simpa using hz)]
    have h9:=h8 (λw=>K (S.put ((s.obj (a6i e)).put yd (.ptr (j2 s.o) 0)) xd w)) (by
     have e1:j2 (s.put xd v).o=j2 s.o:=by rw[a3G]
     rw[e1] at h7;have e2:(s.put xd v).obj (a6i e)=(s.obj (a6i e)).put xd v:=by cases xd <;> rfl
     rw[e2] at h7
     have hne:∀z,yd=some z->xd≠some z:=λz hz hz'=>by
      subst hz;subst hz'
      simp at h6
     rw[a2G hne]
     exact h7)
    exact b5c (g:=(s.obj (a6i e)).get) h1 h9
theorem c1n {dsts:List (Option Nat)} {x y:Oper} (h:b2q dsts x y=true) {s:S} {K:S->Prop} (hx:j6 a7 dsts x s λs=>j6 a7 dsts y s K):j6 a7 dsts y s λs=>j6 a7 dsts x s K:=by
 obtain⟨xd,xop,xty,xpos,xaf,xg⟩:=x;obtain⟨yd,yop,yty,ypos,yaf,yg⟩:=y;simp only[b2q,c2B] at h;obtain⟨⟨⟨⟨⟨⟨⟨h1,h2⟩,h3⟩,h4⟩,h5⟩,h6⟩,h7⟩,h8⟩:=h;cases xg with
 | some g=>cases h2
 | none =>
  cases yg with
  | some g=>cases h4
  | none =>
   cases yd with
   | none=>cases h5
   | some d =>
    cases xop <;> first|cases h1;done|skip
    rename_i r;unfold a83 at h3
    split at h3
    ·rename_i p q t t';have hx':A9 a7 false (s.put xd (s.get r)) (some d) K t ((s.put xd (s.get r)).get p) ((s.put xd (s.get r)).get q):=hx;have hs2:a18 (looks dsts ⟨some d,.call ⟨.builtin .append,⟨[p,q]⟩,⟨[t,t']⟩⟩,yty,ypos,yaf,none⟩) s (s.put xd (s.get r)):=I8 (H1 h6);have hops:=hs2.ops (xs:=[p,q]) λt ht=>by simp[looks,Op.operands,Call.operands];simpa using ht
     rw[hops p (by simp),hops q (by simp)] at hx';obtain⟨kk,o',k',h9,h10⟩:=a85 hx';have e:s=⟨s.t,(s.put xd (s.get r)).o⟩:=by cases xd <;> rfl
     show A9 a7 false s (some d) (λs=>j6 a7 dsts ⟨xd,.move r,xty,xpos,xaf,none⟩ s K) t (s.get p) (s.get q)
     have h11:=h10 s.t (λs=>j6 a7 dsts ⟨xd,.move r,xty,xpos,xaf,none⟩ s K) (by
      show K (S.put (S.put ⟨klT kk s.t,o'⟩ (some d) (.own k')) xd ((S.put ⟨klT kk s.t,o'⟩ (some d) (.own k')).get r));have hs:a18 (looks dsts ⟨xd,.move r,xty,xpos,xaf,none⟩) (⟨klT kk s.t,o'⟩:S) (S.put ⟨klT kk s.t,o'⟩ (some d) (.own k')):=I8 (H1 h7);rw[hs.ops (xs:=[r]) (λt ht=>by simp[looks,Op.operands];simpa using ht) r (by simp),b3I r];rw[b3H] at h9
      have hne:∀z,(some d:Option Nat)=some z->xd≠some z:=λz hz hz'=>by
       subst hz';rw[<-hz] at h8
       simp at h8
      rw[a2G hne]
      exact h9)
     rw[<-e] at h11;exact h11
    ·cases h3
theorem b9C {dsts:List (Option Nat)} {x y:Oper} (h:b3G dsts x y=true) {s:S} {K:S->Prop} (hx:j6 a7 dsts x s λs=>j6 a7 dsts y s K):j6 a7 dsts y s λs=>j6 a7 dsts x s K:=by
 simp only[b3G,c38] at h
 rcases h with ((((h|h)|h)|h)|h)|h
 ·exact c1i h hx
 ·exact c1j h hx
 ·exact c1k h hx
 ·exact c1l h hx
 ·exact c1m h hx
 ·exact c1n h hx
theorem a8C (v:V):E5 .jk v=true:=by cases v <;> rfl
theorem b5d (u:V):E5 u .jk=true:=by cases u <;> rfl
theorem a7g (k:Nat) (w:V):C2 k w=.jk\/((∀v,E5 w v=true->E5 (C2 k w) v=true)/\∀u,E5 u w=true->E5 u (C2 k w)=true):=by
 cases w with
 | own j =>
  have e2:C2 k (.own j)=match B8 j k with|true=>V.jk|false=>.own j:=rfl
  rw[e2];cases B8 j k
  ·exact .inr ⟨λ_ h=>h,λ_ h=>h⟩
  ·exact .inl rfl
 | el j i z o =>
  have e2:C2 k (.el j i z o)=match B8 j k with|true=>V.jk|false=>.el j i z o:=rfl
  rw[e2];cases B8 j k
  ·exact .inr ⟨λ_ h=>h,λ_ h=>h⟩
  ·exact .inl rfl
 | ag cs=>exact .inr ⟨λv _=>by cases v <;> rfl,λu _=>by cases u <;> rfl⟩
 | tu l =>
  cases l with
  | nil=>exact .inr ⟨λ_ h=>h,λ_ h=>h⟩
  | cons x l=>exact .inl rfl
 | _=>exact .inr ⟨λ_ h=>h,λ_ h=>h⟩
theorem b0R {kk:Option Nat} {u v:V} (h:E5 u v=true):E5 (klV kk u) (klV kk v)=true:=by
 cases kk with
 | none=>exact h
 | some k =>
  show E5 (C2 k u) (C2 k v)=true
  rcases a7g k u with e|h1
  ·rw[e];exact a8C _
  ·rcases a7g k v with e|h2
   ·rw[e];exact b5d _
   ·exact h1.1 _ (h2.2 _ h)
def PP (prs:List (Nat×Nat)) (s:S):Prop:=∀p∈prs,E5 (m8 s.t p.1) (m8 s.t p.2)=true
theorem b9D:∀ {prs:List (Nat×Nat)} {s:S},b0H prs s.t=true->PP prs s
 | [],s,_,p,hp=>by simp at hp
 | (i,k)::l,s,h,p,hp=>by
  rw[b0H] at h
  split at h
  ·rename_i h1
   rcases c2C.1 hp with rfl|hp
   ·exact h1
   ·exact b9D (prs:=l) h p hp
  ·cases h
def b6G (prs:List (Nat×Nat)) (d:Option Nat):Prop:=∀p∈prs,d≠some p.1/\d≠some p.2
theorem b3J {kk:Option Nat} {l:List V} {i:Nat}:m8 (klT kk l) i=klV kk (m8 l i):=by
 cases kk with
 | none=>rfl
 | some k=>exact a19
theorem PP.next {prs:List (Nat×Nat)} {s:S} (h:PP prs s) {kk:Option Nat} {d:Option Nat} {v:V} {o':List O} (hf:b6G prs d):PP prs (S.put ⟨klT kk s.t,o'⟩ d v):=λp hp=>by
 have key:∀i,d≠some i->m8 (S.put ⟨klT kk s.t,o'⟩ d v).t i=klV kk (m8 s.t i):=λi hi=>by
  cases d with
  | none=>exact b3J
  | some x =>
   show m8 (G7 (klT kk s.t) x v) i=_;rw[a17 (λe=>hi (by rw[e])),b3J]
 rw[key _ (hf p hp).1,key _ (hf p hp).2];exact b0R (h p hp)
theorem a7h {s:S} {dst:Option Nat} {K:S->Prop} {op:Op} (hx:step a7 false s dst K op):step a7 false s dst (λs'=>(∃kk v o',s'=S.put ⟨klT kk s.t,o'⟩ dst v)/\K s') op:=by
 have hC:∀ {v:V},∃kk u o',s.put dst v=S.put ⟨klT kk s.t,o'⟩ dst u:=λ{v}=>⟨none,v,s.o,rfl⟩
 have hO:∀ {o:O} {v:V},∃kk u o',(s.obj o).put dst v=S.put ⟨klT kk s.t,o'⟩ dst u:=λ{o v}=>⟨none,v,o6 s.o o,rfl⟩
 have hF:∀ {z:Bool} {e:Nat} {r:List (List D)} {v:V},∃kk u o',(s.fresh false (.row z e r)).put dst v=S.put ⟨klT kk s.t,o'⟩ dst u:=λ{z e r v}=>⟨some (j2 s.o),v,_,rfl⟩
 have calm:∀ {op:Op},stepC a7 s.get s.o (λv=>K (s.put dst v)) op->stepC a7 s.get s.o (λv=>(∃kk u o',s.put dst v=S.put ⟨klT kk s.t,o'⟩ dst u)/\K (s.put dst v)) op:=λh=>by
  obtain⟨v,h1,h2⟩:=a16 _ h;exact h2 _ ⟨hC,h1⟩
 unfold step at hx ⊢
 split at hx
 ·split at hx
  ·exact⟨hO,hx⟩
  ·exact hx.elim
 ·split at hx
  ·exact⟨hO,hx⟩
  ·exact hx.elim
 ·split at hx
  ·obtain⟨o',h1,h2⟩:=a3r hx;exact h2 _ _ ⟨⟨none,.jk,o',rfl⟩,h1⟩
  ·exact hx.elim
 ·unfold N1 at hx ⊢
  repeat' split at hx
  all_goals first|exact hx.elim|skip
  obtain⟨h1,z,h2⟩:=hx;exact⟨h1,z,hO,h2⟩
 ·split at hx
  ·split at hx
   ·exact⟨hO,hx⟩
   ·exact hx.elim
  ·exact hx.elim
 ·split at hx
  ·unfold a9t at hx ⊢
   repeat' split at hx
   all_goals first|exact hx.elim|exact⟨⟨none,.jk,_,rfl⟩,hx⟩
  ·exact hx.elim
 ·split at hx
  ·obtain⟨z,hx⟩:=hx;exact⟨z,hF,hx⟩
  ·exact hx.elim
 ·cases dst with
  | none =>
   unfold A9 at hx ⊢
   repeat' split at hx
   all_goals first|exact hx.elim|skip
   ·obtain⟨h1,z,h2⟩:=hx;exact⟨h1,z,hF,h2⟩
   ·obtain⟨h1,h2⟩:=hx;exact⟨h1,⟨some _,.jk,_,rfl⟩,h2⟩
  | some d =>
   obtain⟨kk,o',k',h1,h2⟩:=a85 hx;exact h2 s.t _ ⟨⟨kk,_,o',rfl⟩,h1⟩
 ·exact calm hx
 ·exact calm hx
 ·exact calm hx
 ·exact calm hx
theorem Y7 {s:S} {dst:Option Nat} {K K':S->Prop} {op:Op} (hK:∀s,K s->K' s) (hx:step a7 false s dst K op):step a7 false s dst K' op:=by
 have calm:∀ {op:Op},stepC a7 s.get s.o (λv=>K (s.put dst v)) op->stepC a7 s.get s.o (λv=>K' (s.put dst v)) op:=λh=>by
  obtain⟨v,h1,h2⟩:=a16 _ h;exact h2 _ (hK _ h1)
 unfold step at hx ⊢
 split at hx
 ·split at hx
  ·exact hK _ hx
  ·exact hx.elim
 ·split at hx
  ·exact hK _ hx
  ·exact hx.elim
 ·split at hx
  ·obtain⟨o',h1,h2⟩:=a3r hx;exact h2 _ _ (hK _ h1)
  ·exact hx.elim
 ·unfold N1 at hx ⊢
  repeat' split at hx
  all_goals first|exact hx.elim|skip
  obtain⟨h1,z,h2⟩:=hx;exact⟨h1,z,hK _ h2⟩
 ·split at hx
  ·split at hx
   ·exact hK _ hx
   ·exact hx.elim
  ·exact hx.elim
 ·split at hx
  ·unfold a9t at hx ⊢
   repeat' split at hx
   all_goals first|exact hx.elim|exact hK _ hx
  ·exact hx.elim
 ·split at hx
  ·obtain⟨z,hx⟩:=hx;exact⟨z,hK _ hx⟩
  ·exact hx.elim
 ·unfold A9 at hx ⊢
  repeat' split at hx
  all_goals first|exact hx.elim|skip
  ·obtain⟨h1,z,h2⟩:=hx;exact⟨h1,z,hK _ h2⟩
  ·obtain⟨h1,h2⟩:=hx;exact⟨h1,hK _ h2⟩
 ·exact calm hx
 ·exact calm hx
 ·exact calm hx
 ·exact calm hx
theorem b2t {dsts:List (Option Nat)} {prs:List (Nat×Nat)} {o:Oper} {s:S} {K:S->Prop} (hP:PP prs s) (hf:b6G prs o.dst) (h:j6 a7 dsts o s K):j6 a7 dsts o s (λs'=>PP prs s'/\K s'):=by
 obtain⟨dst,op,type,pos,after,gd⟩:=o
 have hst:∀ {K:S->Prop},step a7 false s dst K op->step a7 false s dst (λs'=>PP prs s'/\K s') op:=λ{K} h=>by
  have h1:=a7h h;exact Y7 (λs' ⟨⟨kk,v,o',e⟩,hk⟩=>⟨by rw[e];exact hP.next hf,hk⟩) h1
 cases gd with
 | none=>exact hst h
 | some jb =>
  obtain⟨j,b⟩:=jb
  have h':guard s dsts j (fun
   | some c=>match bEq c b with
    | true=>step a7 false s dst K op
    | false=>K (s.put dst U7)
   | none=>K (s.put dst U7)):=h
  obtain⟨c,h1,h2⟩:=K9 h';have hv:PP prs (s.put dst U7):=hP.next (kk:=none) (o':=s.o) hf
  show guard s dsts j (fun
   | some c=>match bEq c b with
    | true=>step a7 false s dst (λs'=>PP prs s'/\K s') op
    | false=>PP prs (s.put dst U7)/\K (s.put dst U7)
   | none=>PP prs (s.put dst U7)/\K (s.put dst U7))
  refine h2 _ ?_;cases c with
  | none=>exact⟨hv,h1⟩
  | some c =>
   simp only at h1 ⊢;cases hb:bEq c b with
   | true=>rw[hb] at h1;exact hst h1
   | false=>rw[hb] at h1;exact⟨hv,h1⟩
def a7i (prs:List (Nat×Nat)) (o:Oper):Prop:=∀p∈prs,o.dst≠some p.2/\(o.dst=some p.1->∃j,L9 o.op=some j/\(j,p.2)∈prs)
theorem b6H {prs:List (Nat×Nat)} {o:Oper} (h:b36 prs o=true):a7i prs o:=λp hp=>by
 unfold b36 at h;cases hd:o.dst with
 | none=>exact⟨by simp,λe=>by cases e⟩
 | some d =>
  rw[hd] at h;have h1:=c3a.1 h p hp;rw[c2B,c38,a1W,a1W] at h1;refine⟨λe=>?_,λe=>?_⟩
  ·have e:=Option.some.inj e;rw[w8.2 e] at h1;exact absurd h1.1 (by simp)
  ·have e:=Option.some.inj e
   rcases h1.2 with h2|h2
   ·rw[w8.2 e] at h2;exact absurd h2 (by simp)
   ·split at h2
    ·rename_i j hj;exact⟨j,hj,by simpa using h2⟩
    ·cases h2
theorem b5e {s:S} {dst:Option Nat} {K:S->Prop} {op:Op} {j:Nat} (ha:L9 op=some j) (h:step a7 false s dst K op):∃v,K (s.put dst v)/\(∀u,E5 (m8 s.t j) u=true->E5 v u=true)/\∀K':S->Prop,K' (s.put dst v)->step a7 false s dst K' op:=by
 have hc:a5V op=true:=by
  unfold L9 at ha
  split at ha <;> first|rfl|cases ha
 rw[C8 hc] at h;have hs:∀ {K':S->Prop} {v:V},stepC a7 s.get s.o (λv=>K' (s.put dst v)) op->step a7 false s dst K' op:=λ{K' v} hk=>by rw[C8 hc];exact hk
 unfold L9 at ha
 split at ha <;> try cases ha
 ·have h:K (s.put dst (m8 s.t j)):=h;exact⟨_,h,λu hu=>hu,λK' hk=>hs (v:=.jk) (show K' (s.put dst (m8 s.t j)) from hk)⟩
 ·have h:nnV (λv=>K (s.put dst v)) (m8 s.t j):=h;refine⟨m8 s.t j,?_,λu hu=>hu,λK' hk=>hs (v:=.jk) ?_⟩
  ·revert h;cases m8 s.t j <;> intro h <;> first|exact h|exact h.elim
  ·show nnV (λv=>K' (s.put dst v)) (m8 s.t j);revert h hk;cases m8 s.t j <;> intro h hk <;> first|exact hk|exact h.elim
 ·rename_i _ t i;have h:M7 (λv=>K (s.put dst v)) t i (m8 s.t j):=h
  have key:∃v,K (s.put dst v)/\(∀u,E5 (m8 s.t j) u=true->E5 v u=true)/\∀K':S->Prop,K' (s.put dst v)->M7 (λv=>K' (s.put dst v)) t i (m8 s.t j):=by
   generalize m8 s.t j=x at *;simp only[M7] at h ⊢
   split at h <;> try exact h.elim
   rename_i hf;cases x <;> try exact h.elim
   ·exact⟨_,h,λu hu=>by cases u <;> first|rfl|exact hu,λK' hk=>hk⟩
   ·exact⟨_,h,λu hu=>by cases u <;> first|rfl|exact hu,λK' hk=>hk⟩
   ·exact⟨_,h,λu hu=>by cases u <;> first|rfl|exact hu,λK' hk=>hk⟩
  obtain⟨v,h1,h2,h3⟩:=key;exact⟨v,h1,h2,λK' hk=>hs (v:=.jk) (h3 K' hk)⟩
 ·rename_i _ t i;have h:o8 a7 s.o (λv=>K (s.put dst v)) t (m8 s.t j) (s.get i):=h
  have key:∃v,K (s.put dst v)/\(∀u,E5 (m8 s.t j) u=true->E5 v u=true)/\∀K':S->Prop,K' (s.put dst v)->o8 a7 s.o (λv=>K' (s.put dst v)) t (m8 s.t j) (s.get i):=by
   generalize m8 s.t j=x at *;generalize s.get i=y at *;simp only[o8] at h ⊢
   split at h <;> try exact h.elim
   split at h
   ·split at h <;> try exact h.elim
    split at h <;> try exact h.elim
    cases x <;> try exact h.elim
    ·exact⟨_,h,λu hu=>by cases u <;> first|rfl|exact hu,λK' hk=>by first|(simp only[*,T5];done)|(simp only[*,T5];exact hk)⟩
    ·exact⟨_,h,λu hu=>by cases u <;> first|rfl|exact hu,λK' hk=>by first|(simp only[*,T5];done)|(simp only[*,T5];exact hk)⟩
    ·exact⟨_,h,λu hu=>by cases u <;> first|rfl|exact hu,λK' hk=>by first|(simp only[*,T5];done)|(simp only[*,T5];exact hk)⟩
   ·split at h <;> try exact h.elim
    rename_i e he
    split at h
    ·rename_i k m hb
     split at h <;> try exact h.elim
     rename_i j' hj
     obtain⟨k',n',rfl⟩:∃k' n',x=.bs k' n':=by
      cases x <;> first|exact⟨_,_,rfl⟩|cases hb
     cases hb;exact⟨_,h,λu hu=>by cases u <;> first|rfl|exact hu,λK' hk=>by first|(simp only[*,bsV];done)|(simp only[*,bsV];exact hk)⟩
    ·rename_i hb
     split at h
     ·rename_i k e' rows hr
      split at h <;> try exact h.elim
      rename_i he'
      split at h <;> try exact h.elim
      rename_i row hrow
      obtain rfl:x=.own k:=by
       unfold a6h at hr
       split at hr
       ·split at hr
        ·cases hr;rfl
        ·cases hr
       ·cases hr
      exact⟨_,h,λu hu=>by cases u <;> first|rfl|exact hu,λK' hk=>by first|(simp only[*];done)|(simp only[*];exact hk)⟩
     ·rename_i hr
      split at h <;> try exact h.elim
      rename_i sz rows hrw
      split at h <;> try exact h.elim
      rename_i hsz
      split at h <;> try exact h.elim
      rename_i row hrow;exact⟨_,h,λu hu=>rfl,λK' hk=>by first|(simp only[*];done)|(simp only[*];exact hk)⟩
  obtain⟨v,h1,h2,h3⟩:=key;exact⟨v,h1,h2,λK' hk=>hs (v:=.jk) (h3 K' hk)⟩
theorem a3H {v:V}:∀ {l:List V} {i:Nat},m8 (G7 l i v) i=v\/m8 (G7 l i v) i=.jk
 | [],i=>.inr rfl
 | x::l,0=>.inl rfl
 | x::l,i+1=>by rw[G7,m8];exact a3H
theorem PP.chain {prs:List (Nat×Nat)} {s:S} (h:PP prs s) {d:Option Nat} {v:V} (hv:∀p∈prs,d≠some p.2/\(d=some p.1->E5 v (m8 s.t p.2)=true)):PP prs (s.put d v):=λp hp=>by
 have key:∀i,d≠some i->m8 (s.put d v).t i=m8 s.t i:=λi hi=>by
  cases d with
  | none=>rfl
  | some x =>
   show m8 (G7 s.t x v) i=_;rw[a17 (λe=>hi (by rw[e]))]
 obtain⟨h1,h2⟩:=hv p hp;rw[key _ h1]
 by_cases e:d=some p.1
 ·have h3:=h2 e;subst e;show E5 (m8 (G7 s.t p.1 v) p.1) _=true
  rcases a3H (v:=v) (l:=s.t) (i:=p.1) with h4|h4
  ·rw[h4];exact h3
  ·rw[h4];exact a8C _
 ·rw[key _ e];exact h p hp
theorem a4H {prs:List (Nat×Nat)} {o:Oper} (h:a7i prs o) (hn:L9 o.op=none):b6G prs o.dst:=λp hp=>by
 obtain⟨h1,h2⟩:=h p hp;refine⟨λe=>?_,h1⟩;obtain⟨j,hj,_⟩:=h2 e;rw[hn] at hj;cases hj
theorem b5f {prs:List (Nat×Nat)} {s:S} {dst:Option Nat} {K:S->Prop} {op:Op} {j:Nat} (ha:L9 op=some j) (hP:PP prs s) (hk:∀p∈prs,dst≠some p.2/\(dst=some p.1->∃j,L9 op=some j/\(j,p.2)∈prs)) (h:step a7 false s dst K op):step a7 false s dst (λs'=>PP prs s'/\K s') op:=by
 obtain⟨v,h1,h2,h3⟩:=b5e ha h;refine h3 _ ⟨hP.chain λp hp=>⟨(hk p hp).1,λe=>?_⟩,h1⟩;obtain⟨j',hj,hm⟩:=(hk p hp).2 e;rw[ha] at hj;cases hj;exact h2 _ (hP _ hm)
theorem b6I {prs:List (Nat×Nat)} {s:S} {dst:Option Nat} {op:Op} (hP:PP prs s) (hk:∀p∈prs,dst≠some p.2/\(dst=some p.1->∃j,L9 op=some j/\(j,p.2)∈prs)):PP prs (s.put dst U7):=hP.chain λp hp=>⟨(hk p hp).1,λ_=>rfl⟩
theorem a2J {dsts:List (Option Nat)} {prs:List (Nat×Nat)} {o:Oper} {s:S} {K:S->Prop} (hP:PP prs s) (hk:a7i prs o) (h:j6 a7 dsts o s K):j6 a7 dsts o s (λs'=>PP prs s'/\K s'):=by
 cases ha:L9 o.op with
 | none=>exact b2t hP (a4H hk ha) h
 | some j =>
  obtain⟨dst,op,type,pos,after,gd⟩:=o;simp only at ha;have hst:∀ {K:S->Prop},step a7 false s dst K op->step a7 false s dst (λs'=>PP prs s'/\K s') op:=λ{K} h=>b5f ha hP hk h
  cases gd with
  | none=>exact hst h
  | some jb =>
   obtain⟨j,b⟩:=jb
   have h':guard s dsts j (fun
    | some c=>match bEq c b with
     | true=>step a7 false s dst K op
     | false=>K (s.put dst U7)
    | none=>K (s.put dst U7)):=h
   obtain⟨c,h1,h2⟩:=K9 h';have hv:PP prs (s.put dst U7):=b6I (op:=op) hP hk
   show guard s dsts j (fun
    | some c=>match bEq c b with
     | true=>step a7 false s dst (λs'=>PP prs s'/\K s') op
     | false=>PP prs (s.put dst U7)/\K (s.put dst U7)
    | none=>PP prs (s.put dst U7)/\K (s.put dst U7))
   refine h2 _ ?_;cases c with
   | none=>exact⟨hv,h1⟩
   | some c =>
    simp only at h1 ⊢;cases hb:bEq c b with
    | true=>rw[hb] at h1;exact hst h1
    | false=>rw[hb] at h1;exact⟨hv,h1⟩
def a5z (dsts:List (Option Nat)) (prs:List (Nat×Nat)) (x y:Oper):Bool:=match a99 x,a6T dsts y with
 | some i,some k=>prs.contains (i,k) && K7 x.dst (looks dsts y)
 | _,_=>false
theorem a8D {x:Oper} {i:Nat} (h:a99 x=some i):∃d t ty p a,x=⟨d,.load t (.tmp i),ty,p,a,none⟩:=by
 unfold a99 at h
 split at h
 ·have h:=Option.some.inj h;subst h;exact⟨_,_,_,_,_,rfl⟩
 ·cases h
theorem a3t {dsts:List (Option Nat)} {y:Oper} {k:Nat} (h:a6T dsts y=some k):∃t z ty p a,y=⟨none,.store t (.tmp k) z,ty,p,a,none⟩:=by
 unfold a6T at h
 split at h
 ·split at h
  ·cases h
  ·have h:=Option.some.inj h;subst h;exact⟨_,_,_,_,_,rfl⟩
 ·cases h
theorem a2K {o:O}:∀ {l:List O} {m j:Nat},j≠m->m5 (A2 l m o) j=m5 l j
 | [],m,j,_=>rfl
 | x::l,0,0,h=>absurd rfl h
 | x::l,0,j+1,_=>rfl
 | x::l,m+1,0,_=>rfl
 | x::l,m+1,j+1,h=>by rw[A2,m5,m5,a2K (λe=>h (by rw[e]))]
theorem a0i {o:O}:∀ {l:List O} {m:Nat},m5 l m≠.dead->m5 (A2 l m o) m=o
 | [],m,h=>absurd rfl h
 | x::l,0,_=>rfl
 | x::l,m+1,h=>by rw[A2,m5];rw[m5] at h;exact a0i h
theorem a1p {s:S} {K:S->Prop} {t:Nat} {y x:V} (h:E3 a7 s K t y x):∃m b,((∃off cs cs',x=.ptr m off/\m5 s.o m=.box cs/\b=.box cs')\/(∃i z off e rows rows',x=.el m i z off/\m5 s.o m=.row false e rows/\b=.row false e rows'))/\K ⟨s.t,A2 s.o m b⟩/\∀(t':List V) (K':S->Prop),K' ⟨t',A2 s.o m b⟩->E3 a7 ⟨t',s.o⟩ K' t y x:=by
 unfold E3 at h
 split at h <;> try exact h.elim
 ·rename_i k off
  split at h <;> try exact h.elim
  rename_i cs hok
  split at h <;> try exact h.elim
  rename_i l hl
  split at h <;> try exact h.elim
  rename_i hsz
  split at h <;> try exact h.elim
  rename_i cs' hcs;refine⟨k,_,.inl ⟨off,cs,cs',rfl,hok,rfl⟩,h,λt' K' hk=>?_⟩;unfold E3;simp only[hok,hl,hsz,hcs];exact hk
 ·rename_i k i sz off
  split at h <;> try exact h.elim
  rename_i e rows hok
  split at h <;> try exact h.elim
  rename_i hsz
  split at h <;> try exact h.elim
  rename_i row hrow
  split at h <;> try exact h.elim
  rename_i l hl
  split at h <;> try exact h.elim
  rename_i ds hds
  split at h <;> try exact h.elim
  rename_i hlen
  split at h <;> try exact h.elim
  rename_i row' hrow';refine⟨k,_,.inr ⟨i,sz,off,e,rows,_,rfl,hok,rfl⟩,h,λt' K' hk=>?_⟩;unfold E3;simp only[hok,hsz,hrow,hl,hds,hlen,hrow'];exact hk
theorem a7j {os os':List O} {K:V->Prop} {t:Nat} {x:V} (hx:∀j,((∃o,x=.ptr j o)\/∃i z o,x=.el j i z o)->m5 os' j=m5 os j):B1 a7 os K t x=B1 a7 os' K t x:=by
 cases x <;> try rfl
 case ptr k off=>simp only[B1,hx k (.inl ⟨off,rfl⟩)]
 case el k i z off=>simp only[B1,hx k (.inr ⟨i,z,off,rfl⟩)]
theorem a8E {os:List O} {K:V->Prop} {t:Nat} {x:V} (h:B1 a7 os K t x):(∀j o,x=.ptr j o->∃cs,m5 os j=.box cs)/\∀j i z o,x=.el j i z o->∃zz e rows,m5 os j=.row zz e rows:=by
 refine⟨λj o e=>?_,λj i z o e=>?_⟩
 ·subst e;simp only[B1] at h
  split at h <;> first|exact⟨_,by assumption⟩|exact h.elim
 ·subst e;simp only[B1] at h
  split at h <;> first|exact⟨_,_,_,by assumption⟩|exact h.elim
theorem c1o {dsts:List (Option Nat)} {prs:List (Nat×Nat)} {x y:Oper} (h:a5z dsts prs x y=true) {s:S} (hP:PP prs s) {K:S->Prop} (hx:j6 a7 dsts x s λs=>j6 a7 dsts y s K):j6 a7 dsts y s λs=>j6 a7 dsts x s K:=by
 unfold a5z at h
 split at h <;> try cases h
 rename_i i k hi hk;obtain⟨d,t,ty1,p1,a1,rfl⟩:=a8D hi;obtain⟨t2,z,ty2,p2,a2,rfl⟩:=a3t hk;simp only[c2B,c39] at h;have hd:=hP _ h.1;have hx':B1 a7 s.o (λv=>j6 a7 dsts ⟨none,.store t2 (.tmp k) z,ty2,p2,a2,none⟩ (s.put d v) K) t (m8 s.t i):=hx;have hlive:=a8E hx';obtain⟨v,h1,h2⟩:=a0D _ hx';have hs:a18 (looks dsts ⟨none,.store t2 (.tmp k) z,ty2,p2,a2,none⟩) s (s.put d v):=I8 (H1 h.2);have hops:=hs.ops (xs:=[.tmp k,z]) λt ht=>by simp[looks,Op.operands];simpa using ht
 have h3:E3 a7 (s.put d v) K t2 ((s.put d v).get z) ((s.put d v).get (.tmp k)):=h1;rw[hops z (by simp),hops (.tmp k) (by simp)] at h3;obtain⟨m,b,hsh,h4,h5⟩:=a1p h3;rw[a3G] at h4 h5 hsh;have e0:s=⟨s.t,s.o⟩:=rfl;show E3 a7 s (λs=>j6 a7 dsts ⟨d,.load t (.tmp i),ty1,p1,a1,none⟩ s K) t2 (s.get z) (s.get (.tmp k));rw[e0];have h5:=h5 s.t (λs=>j6 a7 dsts ⟨d,.load t (.tmp i),ty1,p1,a1,none⟩ s K) ?_
 ·have e1:(⟨s.t,(s.put d v).o⟩:S)=s:=by rw[a3G]
  exact e1 ▸ h5
 show B1 a7 (A2 s.o m b) (λv=>K (S.put ⟨s.t,A2 s.o m b⟩ d v)) t (m8 s.t i);rw[<-a7j (os:=s.o) (λj hj=>?_)]
 ·refine h2 _ ?_;rw[<-a0h s.t s.o];exact h4
 ·refine a2K λe=>?_
  subst e;have hd':E5 (m8 s.t i) (s.get (.tmp k))=true:=hd
  rcases hsh with⟨off,cs,cs',hy,ho,_⟩|⟨i',z',off,e,rows,rows',hy,ho,_⟩
  ·rw[hy] at hd'
   rcases hj with⟨o,hj⟩|⟨i2,z2,o,hj⟩
   ·rw[hj] at hd';simp only[E5] at hd';rw[w8.2 rfl] at hd';cases hd'
   ·obtain⟨zz,e',rows,he⟩:=hlive.2 _ _ _ _ hj;rw[ho] at he;cases he
  ·rw[hy] at hd'
   rcases hj with⟨o,hj⟩|⟨i2,z2,o,hj⟩
   ·obtain⟨cs,he⟩:=hlive.1 _ _ hj;rw[ho] at he;cases he
   ·rw[hj] at hd';simp only[E5] at hd';rw[w8.2 rfl] at hd';cases hd'
theorem c1p {dsts:List (Option Nat)} {prs:List (Nat×Nat)} {x y:Oper} (h:a5z dsts prs x y=true) {s:S} (hP:PP prs s) {K:S->Prop} (hy:j6 a7 dsts y s λs=>j6 a7 dsts x s K):j6 a7 dsts x s λs=>j6 a7 dsts y s K:=by
 unfold a5z at h
 split at h <;> try cases h
 rename_i i k hi hk;obtain⟨d,t,ty1,p1,a1,rfl⟩:=a8D hi;obtain⟨t2,z,ty2,p2,a2,rfl⟩:=a3t hk;simp only[c2B,c39] at h;have hd:E5 (m8 s.t i) (s.get (.tmp k))=true:=hP _ h.1;have hy':E3 a7 s (λs=>j6 a7 dsts ⟨d,.load t (.tmp i),ty1,p1,a1,none⟩ s K) t2 (s.get z) (s.get (.tmp k)):=hy;obtain⟨m,b,hsh,h4,h5⟩:=a1p hy';have h4:B1 a7 (A2 s.o m b) (λv=>K (S.put ⟨s.t,A2 s.o m b⟩ d v)) t (m8 s.t i):=h4;have hlive:=a8E h4;rw[<-a7j (os:=s.o) (λj hj=>?_)] at h4
 ·obtain⟨v,h6,h7⟩:=a0D _ h4;show B1 a7 s.o (λv=>j6 a7 dsts ⟨none,.store t2 (.tmp k) z,ty2,p2,a2,none⟩ (s.put d v) K) t (m8 s.t i);refine h7 _ ?_;have hs:a18 (looks dsts ⟨none,.store t2 (.tmp k) z,ty2,p2,a2,none⟩) s (s.put d v):=I8 (H1 h.2);have hops:=hs.ops (xs:=[.tmp k,z]) λt ht=>by simp[looks,Op.operands];simpa using ht
  show E3 a7 (s.put d v) K t2 ((s.put d v).get z) ((s.put d v).get (.tmp k));rw[hops z (by simp),hops (.tmp k) (by simp)];have e1:s.put d v=⟨(s.put d v).t,s.o⟩:=by cases d <;> rfl
  rw[e1];refine h5 _ _ ?_;rw[<-a0h s.t s.o] at h6;exact h6
 ·refine a2K λe=>?_
  subst e
  rcases hsh with⟨off,cs,cs',hy,ho,hb⟩|⟨i',z',off,e,rows,rows',hy,ho,hb⟩
  ·rw[hy] at hd
   rcases hj with⟨o,hj⟩|⟨i2,z2,o,hj⟩
   ·rw[hj] at hd;simp only[E5] at hd;rw[w8.2 rfl] at hd;cases hd
   ·obtain⟨zz,e',rows,he⟩:=hlive.2 _ _ _ _ hj;rw[a0i (by rw[ho];simp),hb] at he;cases he
  ·rw[hy] at hd
   rcases hj with⟨o,hj⟩|⟨i2,z2,o,hj⟩
   ·obtain⟨cs,he⟩:=hlive.1 _ _ hj;rw[a0i (by rw[ho];simp),hb] at he;cases he
   ·rw[hj] at hd;simp only[E5] at hd;rw[w8.2 rfl] at hd;cases hd
def b2u:Oper->Option Nat
 | ⟨_,.indexAddr _ (.tmp i) _,_,_,_,none⟩=>some i
 | _=>none
theorem a8F {x:Oper} {i:Nat} (h:b2u x=some i):∃d t y ty p a,x=⟨d,.indexAddr t (.tmp i) y,ty,p,a,none⟩:=by
 unfold b2u at h
 split at h
 ·have h:=Option.some.inj h;subst h;exact⟨_,_,_,_,_,_,rfl⟩
 ·cases h
def a50 (dsts:List (Option Nat)) (prs:List (Nat×Nat)) (x y:Oper):Bool:=match b2u x,a6T dsts y with
 | some i,some k=>prs.contains (i,k) && K7 x.dst (looks dsts y)
 | _,_=>false
theorem b6J {os os':List O} {K:V->Prop} {t:Nat} {x y:V} (hx:∀j,x=.own j->m5 os' j=m5 os j):o8 a7 os K t x y=o8 a7 os' K t x y:=by
 have e1:a6h os' x=a6h os x:=by cases x <;> first|rfl|simp only[a6h,hx _ rfl]
 have e2:I5 os' x=I5 os x:=by cases x with|d x=>cases x <;> rfl|own j=>simp only[I5,hx j rfl]|_=>rfl
 unfold o8;rw[e1,e2]
theorem b3K {os:List O} {K:V->Prop} {t:Nat} {x y:V} (h:o8 a7 os K t x y):∀j,x=.own j->∃zz e rows,m5 os j=.row zz e rows:=by
 intro j e;subst e;cases ho:m5 os j with
 | row z e rows=>exact⟨_,_,_,rfl⟩
 | _ =>
  exfalso;simp only[o8,T5,bsV,a6h,I5,ho] at h
  repeat' split at h
  all_goals first|exact h|skip
theorem c1q {dsts:List (Option Nat)} {prs:List (Nat×Nat)} {x y:Oper} (h:a50 dsts prs x y=true) {s:S} (hP:PP prs s) {K:S->Prop} (hx:j6 a7 dsts x s λs=>j6 a7 dsts y s K):j6 a7 dsts y s λs=>j6 a7 dsts x s K:=by
 unfold a50 at h
 split at h <;> try cases h
 rename_i i k hi hk;obtain⟨d,t,zi,ty1,p1,a1,rfl⟩:=a8F hi;obtain⟨t2,z,ty2,p2,a2,rfl⟩:=a3t hk;simp only[c2B,c39] at h;have hd:=hP _ h.1;have hx':o8 a7 s.o (λv=>j6 a7 dsts ⟨none,.store t2 (.tmp k) z,ty2,p2,a2,none⟩ (s.put d v) K) t (m8 s.t i) (s.get zi):=hx;have hlive:=b3K hx';obtain⟨v,h1,h2⟩:=a4D _ hx';have hs:a18 (looks dsts ⟨none,.store t2 (.tmp k) z,ty2,p2,a2,none⟩) s (s.put d v):=I8 (H1 h.2);have hops:=hs.ops (xs:=[.tmp k,z]) λt ht=>by simp[looks,Op.operands];simpa using ht
 have h3:E3 a7 (s.put d v) K t2 ((s.put d v).get z) ((s.put d v).get (.tmp k)):=h1;rw[hops z (by simp),hops (.tmp k) (by simp)] at h3;obtain⟨m,b,hsh,h4,h5⟩:=a1p h3;rw[a3G] at h4 h5 hsh;have e0:s=⟨s.t,s.o⟩:=rfl;show E3 a7 s (λs=>j6 a7 dsts ⟨d,.indexAddr t (.tmp i) zi,ty1,p1,a1,none⟩ s K) t2 (s.get z) (s.get (.tmp k));rw[e0];have h5:=h5 s.t (λs=>j6 a7 dsts ⟨d,.indexAddr t (.tmp i) zi,ty1,p1,a1,none⟩ s K) ?_
 ·have e1:(⟨s.t,(s.put d v).o⟩:S)=s:=by rw[a3G]
  exact e1 ▸ h5
 show o8 a7 (A2 s.o m b) (λv=>K (S.put ⟨s.t,A2 s.o m b⟩ d v)) t (m8 s.t i) (S.get ⟨s.t,A2 s.o m b⟩ zi);rw[show S.get ⟨s.t,A2 s.o m b⟩ zi=s.get zi by cases zi <;> rfl,<-b6J (os:=s.o) (λj hj=>?_)]
 ·refine h2 _ ?_;rw[<-a0h s.t s.o];exact h4
 ·refine a2K λe=>?_
  subst e;have hd':E5 (m8 s.t i) (s.get (.tmp k))=true:=hd;obtain⟨zz,e',rows,he⟩:=hlive _ hj
  rcases hsh with⟨off,cs,cs',hy,ho,_⟩|⟨i',z',off,e,rows,rows',hy,ho,_⟩
  ·rw[ho] at he;cases he
  ·rw[hy,hj] at hd';simp only[E5] at hd';rw[w8.2 rfl] at hd';cases hd'
theorem c1r {dsts:List (Option Nat)} {prs:List (Nat×Nat)} {x y:Oper} (h:a50 dsts prs x y=true) {s:S} (hP:PP prs s) {K:S->Prop} (hy:j6 a7 dsts y s λs=>j6 a7 dsts x s K):j6 a7 dsts x s λs=>j6 a7 dsts y s K:=by
 unfold a50 at h
 split at h <;> try cases h
 rename_i i k hi hk;obtain⟨d,t,zi,ty1,p1,a1,rfl⟩:=a8F hi;obtain⟨t2,z,ty2,p2,a2,rfl⟩:=a3t hk;simp only[c2B,c39] at h;have hd:E5 (m8 s.t i) (s.get (.tmp k))=true:=hP _ h.1;have hy':E3 a7 s (λs=>j6 a7 dsts ⟨d,.indexAddr t (.tmp i) zi,ty1,p1,a1,none⟩ s K) t2 (s.get z) (s.get (.tmp k)):=hy;obtain⟨m,b,hsh,h4,h5⟩:=a1p hy';have h4:o8 a7 (A2 s.o m b) (λv=>K (S.put ⟨s.t,A2 s.o m b⟩ d v)) t (m8 s.t i) (S.get ⟨s.t,A2 s.o m b⟩ zi):=h4;rw[show S.get ⟨s.t,A2 s.o m b⟩ zi=s.get zi by cases zi <;> rfl] at h4;have hlive:=b3K h4;rw[<-b6J (os:=s.o) (λj hj=>?_)] at h4
 ·obtain⟨v,h6,h7⟩:=a4D _ h4;show o8 a7 s.o (λv=>j6 a7 dsts ⟨none,.store t2 (.tmp k) z,ty2,p2,a2,none⟩ (s.put d v) K) t (m8 s.t i) (s.get zi);refine h7 _ ?_;have hs:a18 (looks dsts ⟨none,.store t2 (.tmp k) z,ty2,p2,a2,none⟩) s (s.put d v):=I8 (H1 h.2);have hops:=hs.ops (xs:=[.tmp k,z]) λt ht=>by simp[looks,Op.operands];simpa using ht
  show E3 a7 (s.put d v) K t2 ((s.put d v).get z) ((s.put d v).get (.tmp k));rw[hops z (by simp),hops (.tmp k) (by simp)];have e1:s.put d v=⟨(s.put d v).t,s.o⟩:=by cases d <;> rfl
  rw[e1];refine h5 _ _ ?_;rw[<-a0h s.t s.o] at h6;exact h6
 ·refine a2K λe=>?_
  subst e;obtain⟨zz,e',rows,he⟩:=hlive _ hj
  rcases hsh with⟨off,cs,cs',hy,ho,hb⟩|⟨i',z',off,e,rows,rows',hy,ho,hb⟩
  ·rw[a0i (by rw[ho];simp),hb] at he;cases he
  ·rw[hy,hj] at hd;simp only[E5] at hd;rw[w8.2 rfl] at hd;cases hd
def a3V (dsts:List (Option Nat)) (prs:List (Nat×Nat)) (x y:Oper):Bool:=b3G dsts x y || a5z dsts prs x y || a5z dsts prs y x || a50 dsts prs x y || a50 dsts prs y x
theorem b9E {dsts:List (Option Nat)} {prs:List (Nat×Nat)} {x y:Oper} (h:a3V dsts prs x y=true) {s:S} (hP:PP prs s) {K:S->Prop} (hx:j6 a7 dsts x s λs=>j6 a7 dsts y s K):j6 a7 dsts y s λs=>j6 a7 dsts x s K:=by
 simp only[a3V,c38] at h
 rcases h with (((h|h)|h)|h)|h
 ·exact b9C h hx
 ·exact c1o h hP hx
 ·exact c1p h hP hx
 ·exact c1q h hP hx
 ·exact c1r h hP hx
theorem Q7 {dsts:List (Option Nat)} {o:Oper} {s:S} {K K':S->Prop} (hK:∀s,K s->K' s) (h:j6 a7 dsts o s K):j6 a7 dsts o s K':=by
 obtain⟨dst,op,type,pos,after,gd⟩:=o;cases gd with
 | none=>exact Y7 hK h
 | some jb =>
  obtain⟨j,b⟩:=jb
  have h':guard s dsts j (fun
   | some c=>match bEq c b with
    | true=>step a7 false s dst K op
    | false=>K (s.put dst U7)
   | none=>K (s.put dst U7)):=h
  obtain⟨c,h1,h2⟩:=K9 h'
  show guard s dsts j (fun
   | some c=>match bEq c b with
    | true=>step a7 false s dst K' op
    | false=>K' (s.put dst U7)
   | none=>K' (s.put dst U7))
  refine h2 _ ?_;cases c with
  | none=>exact hK _ h1
  | some c =>
   simp only at h1 ⊢;cases hb:bEq c b with
   | true=>rw[hb] at h1;exact Y7 hK h1
   | false=>rw[hb] at h1;exact hK _ h1
def a7k (all:List Oper) (i:Nat):Prop:=a5U all i=false/\a1Y all i=none
theorem a1A {dsts:List (Option Nat)} {all:List Oper} {i:Nat} (h:a7k all i) (o:Oper) (s:S) (K:S->Prop):K8 a7 dsts all i o s K=j6 a7 dsts o s K:=by
 have hst:∀(s:S) (dst:Option Nat) (K:S->Prop) (op:Op),stepD a7 all i s dst K op=step a7 false s dst K op:=λs dst K op=>by
  unfold stepD
  split
  ·split
   ·rw[h.1,h.2]
   ·rfl
  ·rfl
 obtain⟨dst,op,type,pos,after,gd⟩:=o;cases gd with
 | none=>exact hst s dst K op
 | some jb =>
  obtain⟨j,b⟩:=jb;unfold K8;simp only[hst];rfl
def a02 (dsts:List (Option Nat)) (all:List Oper):List Nat->S->(S->Prop)->Prop
 | [],s,K=>K s
 | i::l,s,K=>match all[i]? with
  | some o=>K8 a7 dsts all i o s (λs=>a02 dsts all l s K)
  | none=>a02 dsts all l s K
theorem a4I {dsts:List (Option Nat)} {all:List Oper}:∀(l:List Oper) (i:Nat) (s:S) (K:S->Prop),all.drop i=l->a6j a7 dsts all i l s K->a02 dsts all (List.range' i l.length) s K
 | [],i,s,K,_,h=>h
 | o::l,i,s,K,hl,h=>by
  have hi:i<all.length:=by
   rcases c3o i all.length with h1|h1
   ·exact h1
   ·rw[c3j h1] at hl;cases hl
  rw[c2X hi] at hl;injection hl with h1 h2;rw[c2D,List.range'_succ,a02,c28 hi,h1];simp only;rw[a6j] at h;refine execD_mono (λs hs=>?_) h;exact a4I l (i+1) s K h2 hs
where
 execD_mono {dsts:List (Option Nat)} {all:List Oper} {i:Nat} {o:Oper} {s:S} {K K':S->Prop} (hK:∀s,K s->K' s) (h:K8 a7 dsts all i o s K):K8 a7 dsts all i o s K':=by
  have hst:∀ {s:S} {dst:Option Nat} {op:Op},stepD a7 all i s dst K op->stepD a7 all i s dst K' op:=λ{s dst op} h=>by
   unfold stepD at h ⊢
   split at h
   ·split at h
    ·split at h
     ·exact M8.mono h λv o' ks hk=>hK _ hk
     ·split at h
      ·exact a1V.mono h λv o' hk=>⟨hk.1,hK _ hk.2⟩
      ·exact Y7 hK h
    ·exact Y7 hK h
   ·exact Y7 hK h
  obtain⟨dst,op,type,pos,after,gd⟩:=o;cases gd with
  | none=>exact hst h
  | some jb =>
   obtain⟨j,b⟩:=jb
   have h':guard s dsts j (fun
    | some c=>match bEq c b with
     | true=>stepD a7 all i s dst K op
     | false=>K (s.put dst U7)
    | none=>K (s.put dst U7)):=h
   obtain⟨c,h1,h2⟩:=K9 h'
   show guard s dsts j (fun
    | some c=>match bEq c b with
     | true=>stepD a7 all i s dst K' op
     | false=>K' (s.put dst U7)
    | none=>K' (s.put dst U7))
   refine h2 _ ?_;cases c with
   | none=>exact hK _ h1
   | some c =>
    simp only at h1 ⊢;cases hb:bEq c b with
    | true=>rw[hb] at h1;exact hst h1
    | false=>rw[hb] at h1;exact hK _ h1
theorem b5g {ks:List Nat}:∀ {t:List V} {i j:Nat},E5 (m8 t i) (m8 t j)=true->E5 (m8 (z6 ks t) i) (m8 (z6 ks t) j)=true:=by
 induction ks with
 | nil=>intro t i j h;exact h
 | cons k ks ih =>
  intro t i j h;rw[z6];refine ih ?_;rw[a19,a19];exact b0R (kk:=some k) h
theorem PP.called {prs:List (Nat×Nat)} {s:S} (h:PP prs s) {ks:List Nat} {d:Option Nat} {v:V} {o':List O} (hf:b6G prs d):PP prs (S.put ⟨z6 ks s.t,o'⟩ d v):=λp hp=>by
 have key:∀i,d≠some i->m8 (S.put ⟨z6 ks s.t,o'⟩ d v).t i=m8 (z6 ks s.t) i:=λi hi=>by
  cases d with
  | none=>rfl
  | some x =>
   show m8 (G7 (z6 ks s.t) x v) i=_;rw[a17 (λe=>hi (by rw[e]))]
 rw[key _ (hf p hp).1,key _ (hf p hp).2];exact b5g (h p hp)
theorem b2v {dsts:List (Option Nat)} {prs:List (Nat×Nat)} {all:List Oper} {i:Nat} {o:Oper} {s:S} {K:S->Prop} (hP:PP prs s) (hf:b6G prs o.dst) (h:K8 a7 dsts all i o s K):K8 a7 dsts all i o s (λs'=>PP prs s'/\K s'):=by
 obtain⟨dst,op,type,pos,after,gd⟩:=o
 have hst:∀ {K:S->Prop},stepD a7 all i s dst K op->stepD a7 all i s dst (λs'=>PP prs s'/\K s') op:=λ{K} h=>by
  have h0:∀ {K:S->Prop} {op:Op},step a7 false s dst K op->step a7 false s dst (λs'=>PP prs s'/\K s') op:=λ{K op} h=>Y7 (λs' ⟨⟨kk,v,o',e⟩,hk⟩=>⟨by rw[e];exact hP.next hf,hk⟩) (a7h h)
  unfold stepD at h ⊢
  split at h
  ·split at h
   ·split at h
    ·exact M8.mono h λv o' ks hk=>⟨hP.called hf,hk⟩
    ·split at h
     ·exact a1V.mono h λv o' hk=>⟨hk.1,hP.called (ks:=[]) hf,hk.2⟩
     ·exact h0 h
   ·exact h0 h
  ·exact h0 h
 cases gd with
 | none=>exact hst h
 | some jb =>
  obtain⟨j,b⟩:=jb
  have h':guard s dsts j (fun
   | some c=>match bEq c b with
    | true=>stepD a7 all i s dst K op
    | false=>K (s.put dst U7)
   | none=>K (s.put dst U7)):=h
  obtain⟨c,h1,h2⟩:=K9 h';have hv:PP prs (s.put dst U7):=hP.next (kk:=none) (o':=s.o) hf
  show guard s dsts j (fun
   | some c=>match bEq c b with
    | true=>stepD a7 all i s dst (λs'=>PP prs s'/\K s') op
    | false=>PP prs (s.put dst U7)/\K (s.put dst U7)
   | none=>PP prs (s.put dst U7)/\K (s.put dst U7))
  refine h2 _ ?_;cases c with
  | none=>exact⟨hv,h1⟩
  | some c =>
   simp only at h1 ⊢;cases hb:bEq c b with
   | true=>rw[hb] at h1;exact hst h1
   | false=>rw[hb] at h1;exact⟨hv,h1⟩
theorem b0S {dsts:List (Option Nat)} {prs:List (Nat×Nat)} {all:List Oper} {i:Nat} {o:Oper} {s:S} {K:S->Prop} (hP:PP prs s) (hk:a7i prs o) (h:K8 a7 dsts all i o s K):K8 a7 dsts all i o s (λs'=>PP prs s'/\K s'):=by
 cases ha:L9 o.op with
 | none=>exact b2v hP (a4H hk ha) h
 | some j =>
  have e:∀K:S->Prop,K8 a7 dsts all i o s K=j6 a7 dsts o s K:=λK=>by
   obtain⟨dst,op,type,pos,after,gd⟩:=o;simp only at ha
   have e1:∀(s:S) (K:S->Prop),stepD a7 all i s dst K op=step a7 false s dst K op:=λs K=>by
    unfold L9 at ha
    split at ha <;> first|rfl|cases ha
   cases gd with
   | none=>exact e1 s K
   | some jb =>
    obtain⟨j,b⟩:=jb;unfold K8;simp only[e1];rfl
  rw[e] at h ⊢;exact a2J hP hk h
theorem a52 {dsts:List (Option Nat)} {prs:List (Nat×Nat)} {all:List Oper} {y:Nat} {oy:Oper} (hoy:all[y]?=some oy) (hty:a7k all y):∀ {pre post:List Nat} {s:S} {K:S->Prop},(∀x∈pre,a7k all x/\∀ox,all[x]?=some ox->a3V dsts prs ox oy=true/\a7i prs ox)->PP prs s->a02 dsts all (pre++y::post) s K->a02 dsts all (y::(pre++post)) s K
 | [],post,s,K,_,_,h=>h
 | x::pre,post,s,K,ha,hP,h=>by
  rw[c3C,a02] at h;obtain⟨hx,hxx⟩:=ha x (c27 ..);cases hox:all[x]? with
  | none =>
   rw[hox] at h;have h1:=a52 hoy hty (λz hz=>ha z (c26 _ hz)) hP h;rw[a02,hoy] at h1 ⊢;simp only at h1 ⊢;refine a4I.execD_mono (λs hs=>?_) h1;rw[c3C,a02,hox];exact hs
  | some ox =>
   rw[hox] at h;simp only at h;obtain⟨hap,hf⟩:=hxx ox hox;rw[a1A hx] at h
   have h2:j6 a7 dsts ox s λs=>j6 a7 dsts oy s λs=>a02 dsts all (pre++post) s K:=Q7 (λs hs=>by
    have:=a52 hoy hty (λz hz=>ha z (c26 _ hz)) hs.1 hs.2;rw[a02,hoy] at this;simp only at this;rw[a1A hty] at this
    exact this) (a2J hP hf h)
   rw[a02,hoy];simp only;rw[a1A hty];have h3:=b9E hap hP h2;refine Q7 (λs hs=>?_) h3;rw[c3C,a02,hox];simp only;rw[a1A hx];exact hs
theorem getD_none {l:List (List Nat)} {i:Nat} (h:l[i]?=none):l.getD i []=[]:=by rw[c2V,h];rfl
theorem a3W {dsts:List (Option Nat)} {an:List (List Nat)} {i:Nat} {oi:Oper}:∀ {l:List Oper} {j:Nat} {r:List Nat},N9 dsts an i oi j l=some r->∀(m:Nat) (o:Oper),l[m]?=some o->j+m≠i ->
  (j+m<i->(an.getD i []).contains (j+m)=true\/((K7 o.dst (looks dsts oi) && K7 oi.dst (looks dsts o) && (o.dst.isNone || o.dst != oi.dst))=true/\∃ks,a0Z dsts o=some ks/\∀k∈ks,k∈r))/\(i<j+m->(an.getD (j+m) []).contains i=true)
 | [],j,r,h,m,o,hm,_=>by simp at hm
 | x::l,j,r,h,m,o,hm,hne=>by
  rw[N9] at h;cases m with
  | zero =>
   simp at hm
   subst hm;rw[c3I] at hne ⊢;rw[show Nat.beq j i=false by rw[<-c4G,Nat.beq_eq];exact hne] at h;simp only at h
   split at h
   ·rename_i hlt;rw[c32] at hlt;refine⟨λ_=>?_,λh'=>by omega⟩
    split at h
    ·exact .inl (by assumption)
    ·split at h
     ·rename_i hn
      split at h
      ·rename_i ks hks
       split at h
       ·rename_i ms hms;have h:=Option.some.inj h;exact .inr ⟨hn,ks,hks,λk hk=>by rw[<-h];exact c33 _ hk⟩
       ·cases h
      ·cases h
     ·cases h
   ·rename_i hlt;have hlt:¬j<i:=λh=>by rw[<-c32] at h;rw[h] at hlt;cases hlt
    refine⟨λh'=>absurd h' hlt,λ_=>?_⟩
    split at h
    ·assumption
    ·cases h
  | succ m =>
   have hm:l[m]?=some o:=by simpa using hm
   have e:j+(m+1)=j+1+m:=by omega
   rw[e] at hne ⊢
   have fin:∀ {r':List Nat},N9 dsts an i oi (j+1) l=some r'->(∀k∈r',k∈r)->_:=λ{r'} h' hr=>by
    obtain⟨h1,h2⟩:=a3W h' m o hm hne;exact(⟨λhl=>(h1 hl).imp id λ⟨h3,ks,h4,h5⟩=>⟨h3,ks,h4,λk hk=>hr k (h5 k hk)⟩,h2⟩:(j+1+m<i->(an.getD i []).contains (j+1+m)=true\/((K7 o.dst (looks dsts oi) && K7 oi.dst (looks dsts o) && (o.dst.isNone || o.dst != oi.dst))=true/\∃ks,a0Z dsts o=some ks/\∀k∈ks,k∈r))/\(i<j+1+m->(an.getD (j+1+m) []).contains i=true))
   split at h
   ·exact fin h λ_ hk=>hk
   ·split at h
    ·split at h
     ·exact fin h λ_ hk=>hk
     ·split at h
      ·split at h
       ·split at h
        ·rename_i ms hms;have h:=Option.some.inj h;exact fin hms λk hk=>by rw[<-h];exact c3L _ hk
        ·cases h
       ·cases h
      ·cases h
    ·split at h
     ·exact fin h λ_ hk=>hk
     ·cases h
theorem a3u {all:List Oper} {i:Nat} {l:List Nat} (h:a1Y all i=some l):∃dst x args ts ty p a,all[i]?=some ⟨dst,.call ⟨.value x,args,ts⟩,ty,p,a,none⟩/\N9 (l8 all) (G0 all []) i ⟨dst,.call ⟨.value x,args,ts⟩,ty,p,a,none⟩ 0 all=some l:=by
 unfold a1Y at h
 split at h
 ·rename_i oi hoi;have h1:=a13 hoi
  split at h
  ·rename_i hc;rw[c2B] at hc;obtain⟨dst,op,ty,p,a,g⟩:=oi;obtain⟨hc1,hc2⟩:=hc;simp only at hc1 hc2;obtain rfl:g=none:=Option.isNone_iff_eq_none.1 hc2;unfold a6o at hc1
   split at hc1
   ·exact⟨_,_,_,_,_,_,_,h1,h⟩
   ·cases hc1
  ·cases h
 ·cases h
theorem b0T:∀ {l:List Oper} {o:Oper},o∈l->o.dst∈l8 l
 | [],o,h=>by simp at h
 | x::l,o,h=>by
  rw[l8]
  rcases c2C.1 h with rfl|h
  ·exact c27 ..
  ·exact c26 _ (b0T h)
theorem a9F:∀ {l:List (Option Nat)} {i:Nat},some i∈l->inD l i=true
 | [],i,h=>by simp at h
 | none::l,i,h=>by rw[inD];exact a9F (by simpa using h)
 | some x::l,i,h=>by
  rw[inD]
  split
  ·rfl
  ·rename_i hx
   rcases c2C.1 h with h|h
   ·have h:=Option.some.inj h;rw[w8.2 h.symm] at hx;cases hx
   ·exact a9F h
theorem T9 {dsts:List (Option Nat)} {an:List (List Nat)} {i:Nat} {oi:Oper}:∀ {l:List Oper} {j:Nat} {r:List Nat},N9 dsts an i oi j l=some r->∀k∈r,inD dsts k=false
 | [],j,r,h,k,hk=>by rw[N9] at h;have h:=Option.some.inj h;subst h;simp at hk
 | x::l,j,r,h,k,hk=>by
  rw[N9] at h
  split at h
  ·exact T9 h k hk
  ·split at h
   ·split at h
    ·exact T9 h k hk
    ·split at h
     ·split at h
      ·rename_i ks hks
       split at h
       ·rename_i ms hms;have h:=Option.some.inj h;subst h
        rcases c2W.1 hk with hk|hk
        ·unfold a0Z at hks
         split at hks
         ·split at hks
          ·cases hks
          ·rename_i hin;have hks:=Option.some.inj hks;subst hks;rw[c4V.1 hk];exact hin
         ·split at hks
          ·have hks:=Option.some.inj hks;subst hks
           simp at hk
          ·cases hks
        ·exact T9 hms k hk
       ·cases h
      ·cases h
     ·cases h
   ·split at h
    ·exact T9 h k hk
    ·cases h
theorem c1s {all:List Oper} {prs:List (Nat×Nat)} {y:Nat} {oy ox:Oper} {l ks:List Nat} (hoy:all[y]?=some oy) (hty:a5U all y=false) (hby:a1Y all y=some l) (hn:(K7 ox.dst (looks (l8 all) oy) && K7 oy.dst (looks (l8 all) ox) && (ox.dst.isNone || ox.dst != oy.dst))=true) (hk:a0Z (l8 all) ox=some ks) (hkl:∀k∈ks,k∈l) (hap:a3V (l8 all) prs ox oy=true) (hxm:ox∈all)
  {s:S} (hP:PP prs s) {R:S->Prop} (h:j6 a7 (l8 all) ox s λs=>K8 a7 (l8 all) all y oy s R):K8 a7 (l8 all) all y oy s λs=>j6 a7 (l8 all) ox s R:=by
 obtain⟨dst,x,args,ts,ty,p,a,hoy',_⟩:=a3u hby
 rw[hoy] at hoy';have hoy':=Option.some.inj hoy';subst hoy';simp only[c2B] at hn;obtain⟨⟨hn1,hn2⟩,hn3⟩:=hn
 have pt:∃v,K8 a7 (l8 all) all y ⟨dst,.call ⟨.value x,args,ts⟩,ty,p,a,none⟩ (s.put ox.dst v) R/\∀(s':S) (K':S->Prop),b0P (looks (l8 all) ox) s s'->a5p l s.t s.o s'.o->K' (s'.put ox.dst v)->j6 a7 (l8 all) ox s' K':=by
  unfold a0Z at hk
  split at hk
  ·rename_i d t k ty' p' a'
   split at hk
   ·cases hk
   have hk:=Option.some.inj hk;subst hk;obtain⟨v,h1,h2⟩:=a0D _ (show B1 a7 s.o (λv=>K8 a7 (l8 all) all y ⟨dst,.call ⟨.value x,args,ts⟩,ty,p,a,none⟩ (s.put d v) R) t (m8 s.t k) from h);refine⟨v,h1,λs' K' hs hkp hk'=>?_⟩;show B1 a7 s'.o (λv=>K' (s'.put d v)) t (m8 s'.t k);have hsl:m8 s'.t k=m8 s.t k:=hs k (by simp[looks,Op.operands,tmps]);rw[hsl,<-a7j (os:=s.o) (λj hj=>?_)]
   ·exact h2 _ hk'
   ·exact hkp k (hkl k (by simp)) j (by rcases hj with⟨o,e⟩|⟨i,z,o,e⟩ <;> rw[e] <;> rfl)
  ·split at hk
   ·rename_i hb;obtain⟨v,h1,h2⟩:=a7b hb h;exact⟨v,h1,λs' K' hs _ hk'=>h2 s' K' hs hk'⟩
   ·cases hk
 obtain⟨v,h1,h2⟩:=pt;have hsT:b0P (looks (l8 all) ⟨dst,.call ⟨.value x,args,ts⟩,ty,p,a,none⟩) s (s.put ox.dst v):=a5y hn1
 have hops:∀z∈(Op.call ⟨.value x,args,ts⟩).operands.toList,(s.put ox.dst v).get z=s.get z:=λz hz=>by
  cases z with
  | tmp i =>
   show m8 (s.put ox.dst v).t i=m8 s.t i;exact hsT i (by unfold looks;exact c3L _ (a6X hz))
  | _=>rfl
 have hget:(s.put ox.dst v).get x=s.get x:=hops x (by simp[Op.operands,Call.operands])
 have hgets:∀l:List Operand,(∀z∈l,z∈(Op.call ⟨.value x,args,ts⟩).operands.toList)->I6 (s.put ox.dst v).get l=I6 s.get l:=by
  intro l
  induction l with
  | nil=>intro _;rfl
  | cons z l ih=>intro hz;rw[I6,I6,hops z (hz z (c27 ..)),ih λz' h'=>hz z' (c26 _ h')]
 have hargs:I6 (s.put ox.dst v).get args.toList=I6 s.get args.toList:=hgets _ λz hz=>by
  have hz:z∈args:=by simpa using hz
  simp[Op.operands,Call.operands,hz]
 have ho:(s.put ox.dst v).o=s.o:=a3G ..
 have hturn:a4B (a81 all y) (s.put ox.dst v) x args.toList=a4B (a81 all y) s x args.toList:=by
  unfold a4B;rw[hget,hargs,ho]
 have e0:∀(s:S) (R:S->Prop),K8 a7 (l8 all) all y ⟨dst,.call ⟨.value x,args,ts⟩,ty,p,a,none⟩ s R=match a4B (a81 all y) s x args.toList with
   | some (f,vs)=>a7.callx f vs l s (λv s'=>R (s'.put dst v))
   | none=>j6 a7 (l8 all) ⟨dst,.call ⟨.value x,args,ts⟩,ty,p,a,none⟩ s R:=λs R=>by
  show stepD a7 all y s dst R (.call ⟨.value x,args,ts⟩)=_;rw[stepD];cases a4B (a81 all y) s x args.toList with
  | none=>rfl
  | some fv=>obtain⟨f,vs⟩:=fv;simp only[hty,hby]
 rw[e0] at h1 ⊢;rw[hturn] at h1;cases hT:a4B (a81 all y) s x args.toList with
 | none =>
  rw[hT] at h1;simp only at h1 ⊢;refine b9E hap hP ?_;exact h2 s (λs=>j6 a7 (l8 all) ⟨dst,.call ⟨.value x,args,ts⟩,ty,p,a,none⟩ s R) (λ_ _=>rfl) (λ_ _ _ _=>rfl) h1
 | some fv =>
  obtain⟨f,vs⟩:=fv;rw[hT] at h1;simp only at h1 ⊢;have h1:a1V f vs (s.put ox.dst v).o λu o'=>a5p l (s.put ox.dst v).t (s.put ox.dst v).o o'/\R (S.put ⟨(s.put ox.dst v).t,o'⟩ dst u):=h1
  rw[ho] at h1;refine a1V.mono h1 λu o' ⟨hkp,hR⟩=>?_
  have hkp':a5p l s.t s.o o':=λi hi k hik=>by
   by_cases hd:ox.dst=some i
   ·-- a loaded variable's slot is not filled here
    exfalso
    obtain⟨_,_,_,_,_,_,_,_,hbl⟩:=a3u hby
    have h5:=T9 hbl i hi;rw[a9F (by rw[<-hd];exact b0T hxm)] at h5;cases h5
   ·refine hkp i hi k ?_
    rw[show m8 (s.put ox.dst v).t i=m8 s.t i by
     cases hxd:ox.dst with
     | none=>rfl
     | some d=>exact a17 λe=>hd (by rw[hxd,e])]
    exact hik
  refine⟨hkp',h2 _ R (λt ht=>?_) (by rw[a3G];exact hkp') ?_⟩
  ·cases hd:dst with
   | none=>rfl
   | some d=>exact a17 λe=>by subst e;exact H1 hn2 _ hd ht
  ·have hcm:(S.put ⟨s.t,o'⟩ dst u).put ox.dst v=S.put ⟨(s.put ox.dst v).t,o'⟩ dst u:=by
    rw[a2G (λz hz hz'=>by
     rw[c38] at hn3
     rcases hn3 with h|h
     ·rw[hz'] at h;cases h
     ·rw[hz',hz] at h;simp at h)]
    cases ox.dst <;> rfl
   rw[hcm];exact hR
theorem a3X {prs:List (Nat×Nat)} {all:List Oper} {y:Nat} {oy:Oper} {l:List Nat} (hoy:all[y]?=some oy) (hty:a5U all y=false) (hby:a1Y all y=some l):∀ {pre post:List Nat} {s:S} {K:S->Prop},(∀x∈pre,a7k all x/\∀ox,all[x]?=some ox->a3V (l8 all) prs ox oy=true/\a7i prs ox/\(K7 ox.dst (looks (l8 all) oy) && K7 oy.dst (looks (l8 all) ox) && (ox.dst.isNone || ox.dst != oy.dst))=true/\∃ks,a0Z (l8 all) ox=some ks/\∀k∈ks,k∈l)->PP prs s->a02 (l8 all) all (pre++y::post) s K->a02 (l8 all) all (y::(pre++post)) s K
 | [],post,s,K,_,_,h=>h
 | x::pre,post,s,K,ha,hP,h=>by
  rw[c3C,a02] at h;obtain⟨hx,hxx⟩:=ha x (c27 ..);cases hox:all[x]? with
  | none =>
   rw[hox] at h;have h1:=a3X hoy hty hby (λz hz=>ha z (c26 _ hz)) hP h;rw[a02,hoy] at h1 ⊢;simp only at h1 ⊢;refine a4I.execD_mono (λs hs=>?_) h1;rw[c3C,a02,hox];exact hs
  | some ox =>
   rw[hox] at h;simp only at h;obtain⟨hap,hf,hn,ks,hks,hkl⟩:=hxx ox hox;rw[a1A hx] at h
   have h2:j6 a7 (l8 all) ox s λs=>K8 a7 (l8 all) all y oy s λs=>a02 (l8 all) all (pre++post) s K:=Q7 (λs hs=>by
    have:=a3X hoy hty hby (λz hz=>ha z (c26 _ hz)) hs.1 hs.2;rw[a02,hoy] at this
    exact this) (a2J hP hf h)
   rw[a02,hoy];simp only;have h3:=c1s (prs:=prs) hoy hty hby hn hks hkl hap (c2F hox) hP h2;refine a4I.execD_mono (λs hs=>?_) h3;rw[c3C,a02,hox];simp only;rw[a1A hx];exact hs
def a7l (dsts:List (Option Nat)) (prs:List (Nat×Nat)) (ops:List Oper) (an:List (List Nat)) (j i:Nat):Bool:=(an.getD i []).contains j || match ops[j]?,ops[i]? with|some x,some y=>a3V dsts prs x y|_,_=>true
def a7m (ops:Array Oper):Bool :=
 let l:=ops.toList
 let an:=G0 l []
 let d:=l8 l
 l.all (b36 (N8 l)) && (List.range l.length).all λi=>(an.getD i []).all (λj=>Nat.blt j i) && (List.range i).all λj=>a7l d (N8 l) l an j i
theorem a7n:∀(l:List Oper) (acc:List (List Nat)) (i:Nat),i<acc.length->(G0 l acc)[i]?=acc[i]?
 | [],acc,i,_=>rfl
 | o::l,acc,i,h=>by rw[G0,a7n l _ i (by simp;omega),c2R h]
theorem b3L:∀(l:List Oper) (acc:List (List Nat)) (i:Nat) (o:Oper),l[i]?=some o->(G0 l acc)[acc.length+i]?=some ((a1X o).flatMap λj=>j::(if j<acc.length+i then (G0 l acc).getD j [] else []))
 | [],acc,i,o,h=>by simp at h
 | x::l,acc,0,o,h=>by
  simp at h
  subst h;rw[G0,c3I,a7n l _ _ (by simp),c2P (c2A _)];simp only[c4e,List.getElem?_cons_zero,Option.some.injEq]
  congr 1
  funext j
  congr 1
  split
  ·rename_i hj;rw[c2V,c2V,a7n l _ j (by simp;omega),c2R hj]
  ·rename_i hj;rw[c2V,c3p (by omega)];rfl
 | x::l,acc,i+1,o,h=>by
  have:=b3L l (acc++[(a1X x).flatMap λj=>j::acc.getD j []]) i o (by simpa using h);rw[G0];have e:(acc++[(a1X x).flatMap λj=>j::acc.getD j []]).length+i=acc.length+(i+1):=by simp;omega
  rw[e] at this;exact this
section
variable {I0:Nat->Nat->Prop} {X:Nat->Prop} {w0:W0} {s:S} {a:Act} {w:World}
theorem c1t {ro:Option Nat} {n:Nat} {ops:Array Oper} {Q:Exit->Act->World->Prop} {o:Oper} (hop:U9 Tryd.prog o.op=true) (h:U8 I0 X w0 s a w) {K1:S->Prop} {ix:Nat} (hx:K8 a7 (l8 ops.toList) ops.toList ix o s K1) {Kw:Act->World->Prop} (hKw:∀s' a' w',U8 I0 X w0 s' a' w'->K1 s'->Kw a' w'):if Region.wanted o (yielded ops a.tmps) then o.wpIn (FW ro) n Tryd.prog a w Kw Q else (∀f,o.about Tryd.prog w a.eval=some f->(FW ro).fn f)/\Kw (a.put o.dst undef) w:=by
 obtain⟨dst,op,type,pos,after,gd⟩:=o
 have hstep:stepD a7 ops.toList ix s dst K1 op->Oper.wpIn (FW ro) n Tryd.prog ⟨dst,op,type,pos,after,gd⟩ a w Kw Q:=λhs=>by
  obtain⟨I,g,h⟩:=h;have h0:step a7 false s dst K1 op->Oper.wpIn (FW ro) n Tryd.prog ⟨dst,op,type,pos,after,gd⟩ a w Kw Q:=λhs=>b0J (λc hc=>a2E hop c hc) (Oper.wp_mono (λa' w' ⟨s',h1,h2⟩=>hKw s' a' w' h1 h2) (b35 h (o:=⟨dst,op,type,pos,after,gd⟩) (Q:=Q) hop hs))
  unfold stepD at hs
  split at hs
  ·rename_i x args ts
   split at hs
   ·rename_i f vs hf
    split at hs
    ·unfold a4B at hf
     split at hf <;> try cases hf
     rename_i f' ks hfn
     replace hf:some (f',a1S (I6 s.get args.toList) (a63 ks))=some (f,vs):=by
      split at hf
      ·exact hf
      ·split at hf
       ·cases hf
       ·exact hf
     injection hf with hf;injection hf with e1 e2;subst e1;obtain⟨cs,hc1,hc2⟩:=b63 h hfn;refine b0J (λc hc=>a2E hop c hc) (Oper.wp_mono (λa' w' ⟨s',h1,h2⟩=>hKw s' a' w' h1 h2) (a6S h (o:=⟨dst,.call ⟨.value x,args,ts⟩,type,pos,after,gd⟩) (λhf=>a0K (cs:=cs) rfl hc1 hf) ?_ hs));rw[<-e2,T7];exact(h.gets args.toList).append hc2
    ·split at hs
     ·unfold a4B at hf
      split at hf <;> try cases hf
      rename_i f' ks hfn
      replace hf:some (f',a1S (I6 s.get args.toList) (a63 ks))=some (f,vs):=by
       split at hf
       ·exact hf
       ·split at hf
        ·cases hf
        ·exact hf
      injection hf with hf;injection hf with e1 e2;subst e1;obtain⟨cs,hc1,hc2⟩:=b63 h hfn;refine b0J (λc hc=>a2E hop c hc) (Oper.wp_mono (λa' w' ⟨s',h1,h2⟩=>hKw s' a' w' h1 h2) (b61 h (o:=⟨dst,.call ⟨.value x,args,ts⟩,type,pos,after,gd⟩) (λhf=>a0K (cs:=cs) rfl hc1 hf) ?_ hs));rw[<-e2,T7];exact(h.gets args.toList).append hc2
     ·exact h0 hs
   ·exact h0 hs
  ·exact h0 hs
 have hskip:K1 (s.put dst U7)->Kw (a.put dst undef) w:=λhs=>by
  obtain⟨I,g,h⟩:=h;exact hKw _ _ w ⟨I,g,h.put (x:=U7) (.tu [] [] rfl (λi u c hu _=>by simp at hu)) dst⟩ hs
 cases gd with
 | none =>
  rw[c2E (by rfl)];exact hstep hx
 | some jb =>
  obtain⟨j,b⟩:=jb
  have hx':guard s (l8 ops.toList) j (fun
   | some c=>match bEq c b with
    | true=>stepD a7 ops.toList ix s dst K1 op
    | false=>K1 (s.put dst U7)
   | none=>K1 (s.put dst U7)):=hx
  obtain⟨c,hc,hK⟩:=a6V h hx';have hw:Region.wanted ⟨dst,op,type,pos,after,some (j,b)⟩ (yielded ops a.tmps)=(c == some b):=by simp[Region.wanted,hc]
  rw[hw];cases c with
  | none =>
   rw[c2H (by simp)];exact⟨λ_ _=>trivial,hskip hK⟩
  | some c =>
   simp only at hK
   split at hK
   ·rename_i hb;rw[a01] at hb;rw[c2E (by simpa using hb)];exact hstep hK
   ·rename_i hb;rw[a01] at hb;rw[c2H (by simpa using hb)];exact⟨λ_ _=>trivial,hskip hK⟩
theorem b3M {ops:Array Oper} {i:Nat} {o:Oper} (h:ops[i]?=some o) (hlt:∀j∈(G0 ops.toList []).getD i [],j<i):(G0 ops.toList []).getD i []=(a1X o).flatMap λj=>j::(G0 ops.toList []).getD j []:=by
 have h1:=b3L ops.toList [] i o (by simpa using h);simp only[c2N,c3v] at h1
 have h2:(G0 ops.toList []).getD i []=(a1X o).flatMap λj=>j::(if j<i then (G0 ops.toList []).getD j [] else []):=by
  rw[c2V,h1];rfl
 have h3:∀j∈a1X o,j<i:=λj hj=>hlt j (by rw[h2];exact c2U.2 ⟨j,hj,c27 ..⟩)
 rw[h2,List.flatMap_def,List.flatMap_def]
 congr 1
 exact c3n λj hj=>by rw[c2E (h3 j hj)]
theorem a7o {o:Oper} {e:Edge} (he:e∈o.after) (hb:Region.binds .any e=true):e.on∈a1X o:=c3k.2 ⟨e,c3U.2 ⟨by simpa using he,hb⟩,rfl⟩
theorem b89 {ro:Option Nat} {n:Nat} {ops:Array Oper} {Q:Exit->Act->World->Prop} {K:S->Prop} (hQ:∀s' a' w',U8 I0 X w0 s' a' w'->K s'->Q .normal a' w') (hok:b37 Tryd.prog ops.toList=true) (hd:a7m ops=true) (hfree:∀o∈ops.toList,a7i (N8 ops.toList) o):∀(fuel:Nat) (l:List Nat) (listed:Array Bool) (s:S) (a:Act) (w:World),l.length=fuel->listed.size=ops.size->l.Pairwise (·<·)->(∀i,i∈l↔i<ops.size/\listed.getD i true=false)->(∀i,i<ops.size->listed.getD i false=true->∀j∈(G0 ops.toList []).getD i [],listed.getD j false=true)->U8 I0 X w0 s a w->PP (N8 ops.toList) s->a02 (l8 ops.toList) ops.toList l s K->wpAnyIn (FW ro) n Tryd.prog .any ops Q fuel listed a w:=by
 have hd':∀i,i<ops.size->(∀j∈(G0 ops.toList []).getD i [],j<i)/\∀j,j<i->a7l (l8 ops.toList) (N8 ops.toList) ops.toList (G0 ops.toList []) j i=true:=λi hi=>by
  have h1:=c3a.1 (c4x.1 hd).2 i (by simpa using hi);rw[c2B] at h1;exact⟨λj hj=>by simpa [c32] using c3a.1 h1.1 j hj,λj hj=>c3a.1 h1.2 j (by simpa using hj)⟩
 intro fuel
 induction fuel with
 | zero =>
  intro l listed s a w hl hsz hp hmem hcl hrel hPP hK;obtain rfl:=c48.1 hl;refine⟨?_,hQ _ _ _ hrel hK⟩;cases hr:Region.ready .any ops listed with
  | nil=>rfl
  | cons x xs =>
   obtain⟨h1,o,h2,_⟩:=mem_ready.1 (show x∈Region.ready .any ops listed by rw[hr];exact c27 ..);have:=(hmem x).2 ⟨(c2I.1 h2).1,h1⟩
   simp at this
 | succ fuel ih =>
  intro l listed s a w hl hsz hp hmem hcl hrel hPP hK
  have un:∀j,j∈l->listed.getD j false=true->False:=λj hj h=>by
   obtain⟨h1,h2⟩:=(hmem j).1 hj
   simp[hsz,h1] at h h2
   rw[h2] at h;cases h
  refine⟨λhr=>?_,λi hi=>?_⟩
  ·exfalso;cases l with
   | nil=>simp at hl
   | cons i0 rest =>
    obtain⟨h1,h2⟩:=(hmem i0).1 (c27 ..);obtain⟨o,ho⟩:∃o,ops[i0]?=some o:=⟨_,c3O h1⟩
    have:i0∈Region.ready .any ops listed:=mem_ready.2 ⟨h2,o,ho,λe he hb=>by
     have h3:e.on∈(G0 ops.toList []).getD i0 []:=by
      rw[b3M ho (hd' i0 h1).1];exact c2U.2 ⟨e.on,a7o he hb,c27 ..⟩
     have h4:=(hd' i0 h1).1 _ h3
     have h5:¬(e.on∈i0::rest):=λhm=>by
      rcases c2C.1 hm with hm|hm
      ·omega
      ·have:=(c3l.1 hp).1 _ hm;omega
     have h6:listed.getD e.on true=true:=by
      cases hx:listed.getD e.on true with
      | true=>rfl
      | false=>exact absurd ((hmem e.on).2 ⟨by omega,hx⟩) h5
     have hlt:e.on<listed.size:=by omega
     simpa [hlt] using h6⟩
    rw[hr] at this
    simp at this
  ·obtain⟨h1,o,ho,hall⟩:=mem_ready.1 hi;have hlt:=(c2I.1 ho).1;have hil:i∈l:=(hmem i).2 ⟨hlt,h1⟩
   have han:∀j∈(G0 ops.toList []).getD i [],listed.getD j false=true:=λj hj=>by
    rw[b3M ho (hd' i hlt).1] at hj;obtain⟨k,hk,hj⟩:=c2U.1 hj;obtain⟨e,he,hek⟩:=c3k.1 hk;obtain⟨he1,he2⟩:=c3U.1 he;subst hek;have h3:=hall e (by simpa using he1) he2
    rcases c2C.1 hj with rfl|hj
    ·exact h3
    ·have:e.on<ops.size:=by
      rcases c3o e.on listed.size with h'|h'
      ·omega
      ·simp[c3S h'] at h3
     exact hcl _ this h3 j hj
   obtain⟨pre,post,rfl⟩:=List.append_of_mem hil;have hpp:=c4L.1 hp;have hot:ops.toList[i]?=some o:=by rw[c3w];exact ho
   have hpre:∀j∈pre,j<i/\j∉(G0 ops.toList []).getD i []:=λj hj=>⟨hpp.2.2 j hj i (c27 ..),λhm=>un j (c33 _ hj) (han j hm)⟩
   have tot:∀k,a5U ops.toList k=true->k<ops.size->∀j,j<ops.size->j≠k->(j<k->j∈(G0 ops.toList []).getD k [])/\(k<j->k∈(G0 ops.toList []).getD j []):=λk hk hks j hj hjk=>by
    have h3:=c3a.1 hk j (by simpa using hj);simp only[c38,c2B,Nat.beq_eq,c32,c39] at h3
    rcases h3 with (h3|h3)|h3
    ·exact absurd h3 hjk
    ·exact⟨λ_=>h3.2,λh=>by omega⟩
    ·exact⟨λh=>by omega,λ_=>h3.2⟩
   have hf:a02 (l8 ops.toList) ops.toList (i::(pre++post)) s K:=by
    cases hti:a5U ops.toList i with
    | true =>
     have:pre=[]:=by
      cases pre with
      | nil=>rfl
      | cons j pre =>
       obtain⟨h3,h4⟩:=hpre j (c27 ..);exact absurd ((tot i hti hlt j (by omega) (by omega)).1 h3) h4
     subst this;exact hK
    | false =>
     have hpl:∀j∈pre,a7k ops.toList j:=λj hj=>by
      obtain⟨hji,hja⟩:=hpre j hj;refine⟨?_,?_⟩
      ·cases htj:a5U ops.toList j with
       | false=>rfl
       | true=>exact absurd ((tot j htj (by omega) i hlt (by omega)).2 hji) hja
      ·cases hbj:a1Y ops.toList j with
       | none=>rfl
       | some r =>
        exfalso;obtain⟨_,_,_,_,_,_,_,_,hbl⟩:=a3u hbj;have h4:=(a3W hbl i o hot (by omega)).2 (by omega);rw[c3v] at h4;exact hja (by simpa using h4)
     have hap:∀j∈pre,∀ox,ops.toList[j]?=some ox->a3V (l8 ops.toList) (N8 ops.toList) ox o=true:=λj hj ox hox=>by
      obtain⟨hji,hja⟩:=hpre j hj;have h3:=(hd' i hlt).2 j hji;rw[a7l,c38] at h3
      rcases h3 with h3|h3
      ·exact absurd (by simpa using h3) hja
      ·rw[hox,hot] at h3;exact h3
     cases hbi:a1Y ops.toList i with
     | none=>exact a52 (prs:=N8 ops.toList) hot ⟨hti,hbi⟩ (λj hj=>⟨hpl j hj,λox hox=>⟨hap j hj ox hox,hfree ox (c2F hox)⟩⟩) hPP hK
     | some r =>
      refine a3X (prs:=N8 ops.toList) hot hti hbi (λj hj=>⟨hpl j hj,λox hox=>⟨hap j hj ox hox,hfree ox (c2F hox),?_⟩⟩) hPP hK;obtain⟨hji,hja⟩:=hpre j hj;obtain⟨_,_,_,_,_,_,_,hoi,hbl⟩:=a3u hbi;rw[hot] at hoi;have hoi:=Option.some.inj hoi;subst hoi;have h4:=(a3W hbl j ox hox (by omega)).1 (by omega);rw[c3v] at h4
      rcases h4 with h4|⟨h5,ks,h6,h7⟩
      ·exact absurd (by simpa using h4) hja
      ·exact⟨h5,ks,h6,h7⟩
   rw[a02,hot] at hf;simp only at hf;have hom:o∈ops.toList:=c2F hot;have hf:=b0S hPP (hfree o hom) hf
   have key:=c1t (ro:=ro) (n:=n) (Q:=Q) (c3a.1 hok o (c2F (by rw[c3w];exact ho))) hrel hf (Kw:=wpAnyIn (FW ro) n Tryd.prog .any ops Q fuel (listed.setIfInBounds i true)) (λs' a' w' hrel' hK'=>by
    refine ih (pre++post) _ s' a' w' (by simp at hl ⊢;omega) (by simpa using hsz) ?_ (λk=>?_) (λk hk hkl j hj=>?_) hrel' hK'.1 hK'.2
    ·exact c4L.2 ⟨hpp.1,(c3l.1 hpp.2.1).2,λx hx y hy=>hpp.2.2 x hx y (c26 _ hy)⟩
    ·by_cases hik:i=k
     ·subst hik;refine⟨λhm=>?_,λhm=>?_⟩
      ·rcases c2W.1 hm with hm|hm
       ·have:=hpp.2.2 _ hm i (c27 ..);omega
       ·have:=(c3l.1 hpp.2.1).1 _ hm;omega
      ·have h6:=hm.2;have hlt':i<listed.size:=by omega
       simp[hlt'] at h6
     ·rw[getD_set_ne true hik,<-hmem k];simp only[c2W,c2C];exact⟨λh=>h.imp id .inr,λh=>h.imp id λh=>h.resolve_left λe=>hik e.symm⟩
    ·by_cases hik:i=k
     ·subst hik;exact getD_set_true (han j hj)
     ·rw[getD_set_ne false hik] at hkl
      exact getD_set_true (hcl k hk hkl j hj))
   unfold wpOpIn;rw[ho];simp only
   split at key
   ·rename_i hw;rw[c2E hw];exact key
   ·rename_i hw;rw[c2H hw];exact key
theorem b8A {ro:Option Nat} {n:Nat} {ops:Array Oper} {Q:Exit->Act->World->Prop} {K:S->Prop} (hQ:∀s' a' w',U8 I0 X w0 s' a' w'->K s'->Q .normal a' w') (hok:b37 Tryd.prog ops.toList=true) (hd:a7m ops=true) (h:U8 I0 X w0 s a w) (hpre:b0H (N8 ops.toList) s.t=true) (hK:a6j a7 (l8 ops.toList) ops.toList 0 ops.toList s K):wpAnyIn (FW ro) n Tryd.prog .any ops Q ops.size (Array.replicate ops.size false) a w:=by
 refine b89 hQ hok hd (λo ho=>b6H (c3a.1 (c4x.1 hd).1 o ho)) ops.size (List.range ops.size) _ s a w (by simp) (by simp) List.pairwise_lt_range (λi=>?_) (λi hi h=>?_) h (b9D hpre) ?_
 ·rw[List.mem_range];exact⟨λhi=>⟨hi,by simp[hi]⟩,λh=>h.1⟩
 ·simp[hi] at h
 ·have h3:=a4I ops.toList 0 s K (by simp) hK;rw[<-List.range_eq_range'] at h3
  simpa using h3
end
end
end Go.Proofs.YtlofmibkljoapaaDoor.Vm
end
