/- Part 3 of the proof. Conditions: none. -/
import Derived.Test.YtdjnoafijjepcaaGreatT2
import Derived.Orders
import Derived.Test.YtdjnoafijjepcaaGreatT0
set_option linter.all false
set_option linter.unusedVariables false
set_option linter.unusedSimpArgs false
section
namespace Go.Proofs.YtdjnoafijjepcaaGreat.Vm
open Go.RowKit
set_option maxRecDepth 100000
set_option maxHeartbeats 4000000
section
def a61:Op->Bool
 | .alloc _=>false
 | .box _ _=>false
 | .store _ _ _=>false
 | .buildSlice _ 0 _=>false
 | .call ⟨.builtin .append,_,_⟩=>false
 | .makeSlice _ _ _=>false
 | .makeMap _ _=>false
 | .mapUpdate _ _ _ _=>false
 | _=>true
theorem L4 {a:Ar} {s:S} {dst:Option Nat} {K:S->Prop} {op:Op} (h:a61 op=true):H6 a false s dst K op=K4 a s.get s.o (λv=>K (s.put dst v)) op:=by
 unfold H6
 split <;> first|rfl|cases h
def Pt (T:(V->Prop)->Prop):Prop:=∀K,T K->∃v,K v/\∀K',K' v->T K'
section
variable {os:List O} {t i:Nat} {x y z:V}
theorem a8H:Pt λK=>L5 j5 os K t x:=by
 intro K h;simp only[L5] at h ⊢
 repeat' split at h
 all_goals first|exact h.elim|exact⟨_,h,λK' hk=>by simp only[*]⟩
theorem c5b:Pt λK=>b3K K x y z:=by
 intro K h;simp only[b3K] at h ⊢
 repeat' split at h
 all_goals first|exact h.elim|exact⟨_,h,λK' hk=>by simp only[*]⟩
theorem c19:Pt λK=>a0s K t i x:=by
 intro K h;simp only[a0s] at h ⊢
 repeat' split at h
 all_goals first|exact h.elim|exact⟨_,h,λK' hk=>by simp only[*]⟩
theorem c5c:Pt λK=>b3J K t i x:=by
 intro K h;simp only[b3J] at h ⊢
 repeat' split at h
 all_goals first|exact h.elim|exact⟨_,h,λK' hk=>by simp only[*]⟩
theorem a97:Pt λK=>E1 j5 os K t x y:=by
 intro K h;simp only[E1,a0S] at h ⊢
 repeat' split at h
 all_goals first|exact h.elim|exact⟨_,h,λK' hk=>by simp only[*]⟩
theorem c5d:Pt λK=>a9a j5 K t x y:=by
 intro K h;simp only[a9a] at h ⊢
 repeat' split at h
 all_goals first|exact h.elim|exact⟨_,h,λK' hk=>by simp only[*]⟩
theorem c8r {op:BinOp} {x y:Value}:Pt λK=>a8X j5 op x y K:=by
 intro K h;simp only[a8X] at h ⊢
 split at h <;> try exact h.elim
 ·split at h
  ·rename_i hb;unfold d01 at h ⊢
   split at h <;> try exact h.elim
   rename_i hr;exact⟨_,h,λK' hk=>by first|exact hk|(rw[hb,hr];exact hk)⟩
  split at h <;> try exact h.elim
  rename_i hk;simp only[b5B] at h ⊢
  split at h <;> first|exact h.elim|exact⟨_,h,λK' hk'=>by simp only[*]⟩|exact⟨_,h.2,λK' hk'=>by first|exact⟨h.1,hk'⟩|(simp only[hk];exact⟨h.1,hk'⟩)|(rw[hk];exact⟨h.1,hk'⟩)|(split <;> simp_all)⟩
 ·simp only[b5C] at h ⊢
  split at h <;> first|exact h.elim|exact⟨_,h,λK' hk'=>by simp only[*]⟩|exact⟨_,h.2,λK' hk'=>⟨h.1,hk'⟩⟩
theorem a5K {b:Bool} {op:BinOp}:Pt λK=>a4n b K op:=by
 intro K h;simp only[a4n] at h ⊢
 split at h <;> first|exact h.elim|exact⟨_,h,λK' hk'=>hk'⟩
theorem c8s {op:BinOp}:Pt λK=>c0P j5 op t x y K:=by
 intro K h;simp only[c0P] at h ⊢
 split at h <;> try exact h.elim
 ·split at h
  ·split at h <;> try exact h.elim
   exact a5K _ h
  ·split at h <;> try exact h.elim
   exact a5K _ h
  ·exact c8r _ h
 ·split at h <;> try exact h.elim
  split at h <;> try exact h.elim
  exact a5K _ h
 ·split at h <;> try exact h.elim
  split at h <;> try exact h.elim
  exact a5K _ h
 ·split at h <;> try exact h.elim
  obtain⟨h1,h2⟩:=h;obtain⟨v,h3,h4⟩:=a5K _ h2;exact⟨v,h3,λK' hk=>⟨h1,h4 _ hk⟩⟩
 ·split at h <;> try exact h.elim
  exact a5K _ h
 ·split at h <;> try exact h.elim
  split at h <;> try exact h.elim
  split at h <;> try exact h.elim
  exact a5K _ h
theorem c5e {ok:Bool}:Pt λK=>b3N j5 os K t ok x y:=by
 intro K h;simp only[b3N] at h ⊢
 repeat' split at h
 all_goals first|exact h.elim|skip
 all_goals simp only[b3M,b24] at h ⊢
 all_goals repeat' split at h
 all_goals first|exact h.elim|exact⟨_,h,λK' hk=>by simp only[*]⟩
theorem c1A {mx:Bool} {l:List V}:Pt λK=>b8X j5 K mx l:=by
 intro K h;simp only[b8X] at h ⊢
 repeat' split at h
 all_goals first|exact h.elim|exact⟨_,h,λK' hk=>by simp only[*]⟩
theorem d0C:Pt λK=>nnV K x:=by
 intro K h;simp only[nnV] at h ⊢
 split at h <;> first|exact h.elim|exact⟨_,h,λK' hk'=>hk'⟩
theorem d0D {op:UnOp}:Pt λK=>unV j5 op x K:=by
 intro K h;simp only[unV] at h ⊢
 split at h <;> first|exact h.elim|exact⟨_,h,λK' hk'=>hk'⟩
theorem c5f {k0 k:TK}:Pt λK=>b3I j5 K k0 k x:=by
 intro K h;simp only[b3I,c0Q,c0R,c0S,c7X] at h ⊢
 repeat' split at h
 all_goals first|exact h.elim|exact⟨_,h,λK' hk=>by simp only[*]⟩
theorem b5Q:Pt λK=>a4p K i x:=by
 intro K h;simp only[a4p] at h ⊢
 repeat' split at h
 all_goals first|exact h.elim|exact⟨_,h,λK' hk=>by simp only[*]⟩
theorem c8t {k:TK}:Pt λK=>c0T j5 os K k x:=by
 intro K h;simp only[c0T,c7Y,c7Z] at h ⊢
 repeat' split at h
 all_goals first|exact h.elim|exact⟨_,h,λK' hk=>by simp only[*]⟩
theorem c1B {g:Operand->V} {ps:List (Nat×Operand)}:Pt λK=>a3E g K t ps:=by
 intro K h;simp only[a3E] at h ⊢
 repeat' split at h
 all_goals first|exact h.elim|exact⟨_,h,λK' hk=>by simp only[*]⟩
theorem b1b {g:Operand->V} {n:Nat} {ps:List (Nat×Operand)}:Pt λK=>J3 g os K t n ps:=by
 intro K h;simp only[J3] at h ⊢
 repeat' split at h
 all_goals first|exact h.elim|exact⟨_,h,λK' hk=>by simp only[*]⟩
theorem c1C {lo hi:Option V}:Pt λK=>a8Z j5 os K t x lo hi:=by
 intro K h;simp only[a8Z] at h ⊢
 repeat' split at h
 all_goals first|exact h.elim|exact⟨_,h,λK' hk=>by simp only[*]⟩
theorem b7w {f:Nat} {vs:List V}:Pt λK=>b1n j5 os K f vs:=by
 intro K h;simp only[b1n] at h ⊢
 split at h
 ·obtain⟨q,h1,h2⟩:=h;exact⟨_,h2,λK' hk=>⟨q,h1,hk⟩⟩
 ·obtain⟨q,h1,h2⟩:=h;exact⟨_,h2,λK' hk=>⟨q,h1,hk⟩⟩
theorem c1D {vs:List V}:Pt λK=>b25 j5 os K x vs:=by
 intro K h;simp only[b25] at h ⊢
 split at h <;> try exact h.elim
 exact b7w K h
theorem a3u {g:Operand->V} {op:Op}:Pt λK=>K4 j5 g os K op:=by
 intro K h;simp only[K4] at h ⊢
 split at h <;> try exact h.elim
 ·exact⟨_,h,λK' hk=>hk⟩
 ·exact⟨_,h,λK' hk=>hk⟩
 ·exact c5b K h
 ·exact a8H K h
 ·exact c19 K h
 ·exact c5c K h
 ·exact a97 K h
 ·exact c5d K h
 ·exact c8s K h
 ·exact d0D K h
 ·exact c5f K h
 ·exact c1B K h
 ·exact b1b K h
 ·exact b5Q K h
 ·exact c1C K h
 ·exact c8t K h
 ·exact b7w K h
 ·exact c5e K h
 ·exact c1A K h
 ·exact c1A K h
 ·exact d0C K h
 ·split at h <;> try exact h.elim
  exact⟨_,h,λK' hk=>by simp only[*]⟩
 ·exact c1D K h
end
theorem a0J {g g':Operand->V}:∀ {l:List Operand},(∀x∈l,g x=g' x)->N3 g l=N3 g' l
 | [],_=>rfl
 | x::l,h=>by rw[N3,N3,h x (d3L ..),a0J λy hy=>h y (d3M _ hy)]
theorem a40 {g g':Operand->V} {place:List (Nat×Nat)}:∀ {ps:List (Nat×Operand)} {l:List V},(∀p∈ps,g p.2=g' p.2)->a1j g place ps l=a1j g' place ps l
 | [],_,_=>rfl
 | (i,x)::ps,l,h=>by
  rw[a1j,a1j,h (i,x) (d3L ..)];have ih:=λl=>a40 (place:=place) (l:=l) λp hp=>h p (d3M _ hp)
  simp only[ih]
theorem a2H {a:Ar} {g g':Operand->V} {os:List O} {K:V->Prop} {op:Op} (h:∀x∈op.operands,g x=g' x):K4 a g os K op=K4 a g' os K op:=by
 have hm:∀l:List Operand,(∀x∈l,x∈op.operands)->∀x∈l,g x=g' x:=λl hl x hx=>h x (hl x hx)
 unfold K4
 split
 ·rw[h _ (by simp[Op.operands])]
 ·rw[h _ (by simp[Op.operands])]
 ·rw[h _ (by simp[Op.operands]),h _ (by simp[Op.operands]),h _ (by simp[Op.operands])]
 ·rw[h _ (by simp[Op.operands])]
 ·rw[h _ (by simp[Op.operands])]
 ·rw[h _ (by simp[Op.operands])]
 ·rw[h _ (by simp[Op.operands]),h _ (by simp[Op.operands])]
 ·rw[h _ (by simp[Op.operands]),h _ (by simp[Op.operands])]
 ·rw[h _ (by simp[Op.operands]),h _ (by simp[Op.operands])]
 ·rw[h _ (by simp[Op.operands])]
 ·rw[h _ (by simp[Op.operands])]
 ·rename_i t ps;simp only[a3E];have e:∀pl l,a1j g pl ps.toList l=a1j g' pl ps.toList l:=λpl l=>a40 λp hp=>h p.2 (by simp only[Op.operands];simp;exact⟨p.1,by simpa using hp⟩)
  simp only[e]
 ·rename_i t n ps;simp only[J3];have e:∀pl l,a1j g pl ps.toList l=a1j g' pl ps.toList l:=λpl l=>a40 λp hp=>h p.2 (by simp only[Op.operands];simp;exact⟨p.1,by simpa using hp⟩)
  simp only[e]
 ·rw[h _ (by simp[Op.operands])]
 ·rename_i t x lo hi;rw[h x (by simp[Op.operands])]
  have e1:a0B g lo=a0B g' lo:=by cases lo with
   | none=>rfl
   | some y=>rw[a0B,a0B,h y (by simp[Op.operands])]
  have e2:a0B g hi=a0B g' hi:=by cases hi with
   | none=>rfl
   | some y=>rw[a0B,a0B,h y (by simp[Op.operands])]
  rw[e1,e2]
 ·rw[h _ (by simp[Op.operands,Call.operands])]
 ·rename_i f args ts;rw[a0J λx hx=>h x (by simp[Op.operands,Call.operands];right;simpa using hx)]
 ·rw[h _ (by simp[Op.operands]),h _ (by simp[Op.operands])]
 ·rename_i args ts;rw[a0J λx hx=>h x (by simp[Op.operands,Call.operands];simpa using hx)]
 ·rename_i args ts;rw[a0J λx hx=>h x (by simp[Op.operands,Call.operands];simpa using hx)]
 ·rw[h _ (by simp[Op.operands])]
 ·rename_i f cs;rw[a0J λx hx=>h x (by simp[Op.operands];simpa using hx)]
 ·rename_i i args ts;rw[a0J λx hx=>h x (by simp[Op.operands,Call.operands];right;simpa using hx),h (.tmp i) (by simp[Op.operands,Call.operands])]
 ·rfl
theorem a62:∀ {l:List Operand} {t:Nat},Operand.tmp t∈l->t∈tmps l
 | [],t,h=>by simp at h
 | x::l,t,h=>by
  rcases d3R.1 h with rfl|h
  ·simp[tmps]
  ·have h2:=a62 h;cases x <;> simp[tmps,h2]
def s8 (a:Ar) (dsts:List (Option Nat)) (o:Oper) (s:S) (K:S->Prop):Prop:=run a false dsts [o] s K
theorem a3v {l:List V} {i j:Nat} {v:V} (h:i≠j):y8 (H5 l i v) j=y8 l j:=by
 rw[a0l]
 rcases a4s l j with h1|⟨h1,h2⟩
 ·rcases a4s (l.set i v) j with h3|⟨h3,h4⟩
  ·rw[d4i h,h1] at h3;injection h3 with h3;exact h3.symm
  ·rw[d4k] at h3;have:=(d3J.1 h1).1;omega
 ·rcases a4s (l.set i v) j with h3|⟨h3,h4⟩
  ·rw[d4i h] at h3;have:=(d3J.1 h3).1;omega
  ·rw[h4,h2]
theorem a3w {s:S} {d e:Option Nat} {u v:V} (h:∀x,d=some x->e≠some x):(s.put d u).put e v=(s.put e v).put d u:=by
 cases d with
 | none=>rfl
 | some x =>
  cases e with
  | none=>rfl
  | some y =>
   have hne:x≠y:=λe=>h x rfl (by rw[e])
   simp only[S.put,a0l]
   congr 1
   exact List.set_comm _ _ hne
def a3x (l:List Nat) (s s':S):Prop:=s'.o=s.o/\∀t∈l,y8 s'.t t=y8 s.t t
theorem T1 {l:List Nat} {s:S} {d:Option Nat} {v:V} (h:∀x,d=some x->x∉l):a3x l s (s.put d v):=by
 cases d with
 | none=>exact⟨rfl,λ_ _=>rfl⟩
 | some x=>exact⟨rfl,λt ht=>a3v λe=>h x rfl (e ▸ ht)⟩
theorem a3x.symm {l:List Nat} {s s':S} (h:a3x l s s'):a3x l s' s:=⟨h.1.symm,λt ht=>(h.2 t ht).symm⟩
theorem a3x.ops {l:List Nat} {s s':S} (h:a3x l s s') {xs:List Operand} (hx:∀t∈tmps xs,t∈l):∀x∈xs,s'.get x=s.get x:=λx hxm=>by
 cases x with
 | tmp t=>exact h.2 t (hx t (a62 hxm))
 | const v=>rfl
 | global g=>rfl
 | func f=>rfl
theorem a98 {dsts:List (Option Nat)} {s s':S} {j:Nat} {K:Option Bool->Prop} (h:∀d,getD dsts j=some d->y8 s'.t d=y8 s.t d):guard s' dsts j K=guard s dsts j K:=by
 unfold guard;cases hd:getD dsts j with
 | none=>rfl
 | some d=>simp only[h d hd]
theorem a2n {dsts:List (Option Nat)} {s:S} {j:Nat} {K:Option Bool->Prop} (h:guard s dsts j K):∃c,K c/\∀K',K' c->guard s dsts j K':=by
 unfold guard at h ⊢
 repeat' split at h
 all_goals first|exact h.elim|exact⟨_,h,λK' hk=>by simp only[*]⟩
theorem a63 {dsts:List (Option Nat)} {o:Oper} (hc:a61 o.op=true) {s:S} {K:S->Prop} (h:s8 j5 dsts o s K):∃v,K (s.put o.dst v)/\∀s' K',a3x (B7 dsts o) s s'->K' (s'.put o.dst v)->s8 j5 dsts o s' K':=by
 obtain⟨dst,op,type,pos,after,gd⟩:=o
 have hst:∀ {s s':S} {K:S->Prop} {l:List Nat},(∀t∈tmps op.operands.toList,t∈l)->a3x l s s'->H6 j5 false s dst K op->∃v,K (s.put dst v)/\∀K',K' (s'.put dst v)->H6 j5 false s' dst K' op:=λ{s s' K l} hl hs h=>by
  rw[L4 hc] at h;obtain⟨v,h1,h2⟩:=a3u _ h;refine⟨v,h1,λK' hk=>?_⟩;rw[L4 hc,hs.1];have e:=a2H (a:=j5) (os:=s.o) (K:=λv=>K' (s'.put dst v)) (op:=op) (g:=s.get) (g':=s'.get) λx hx=>((hs.ops (xs:=op.operands.toList) hl) x (by simpa using hx)).symm
  rw[<-e];exact h2 _ hk
 cases gd with
 | none =>
  have hl:∀t∈tmps op.operands.toList,t∈B7 dsts ⟨dst,op,type,pos,after,none⟩:=λt ht=>by simp[B7,ht]
  have h':H6 j5 false s dst K op:=h;rw[L4 hc] at h';obtain⟨v,h1,h2⟩:=a3u _ h';refine⟨v,h1,λs' K' hs hk=>?_⟩;show H6 j5 false s' dst K' op;rw[L4 hc,hs.1];have e:=a2H (a:=j5) (os:=s.o) (K:=λv=>K' (s'.put dst v)) (op:=op) (g:=s.get) (g':=s'.get) λx hx=>((hs.ops (xs:=op.operands.toList) hl) x (by simpa using hx)).symm
  rw[<-e];exact h2 _ hk
 | some jb =>
  obtain⟨j,b⟩:=jb;have hl:∀t∈tmps op.operands.toList,t∈B7 dsts ⟨dst,op,type,pos,after,some (j,b)⟩:=λt ht=>by simp[B7,ht]
  have hg:∀s',a3x (B7 dsts ⟨dst,op,type,pos,after,some (j,b)⟩) s s'->∀d,getD dsts j=some d->y8 s'.t d=y8 s.t d:=λs' hs d hd=>hs.2 d (by simp[B7,hd])
  have h':guard s dsts j (fun
   | some c=>match bEq c b with
    | true=>H6 j5 false s dst K op
    | false=>K (s.put dst vun)
   | none=>K (s.put dst vun)):=h
  have a3i:∀(c:Option Bool) {s':S} {K':S->Prop},(∀K',K' c->guard s dsts j K')->a3x (B7 dsts ⟨dst,op,type,pos,after,some (j,b)⟩) s s'->(match c with
   | some c=>match bEq c b with
    | true=>H6 j5 false s' dst K' op
    | false=>K' (s'.put dst vun)
   | none=>K' (s'.put dst vun))->s8 j5 dsts ⟨dst,op,type,pos,after,some (j,b)⟩ s' K':=λc {s' K'} h2 hs hx=>by
   show guard s' dsts j (fun
    | some c=>match bEq c b with
     | true=>H6 j5 false s' dst K' op
     | false=>K' (s'.put dst vun)
    | none=>K' (s'.put dst vun))
   rw[a98 (hg s' hs)];exact h2 _ hx
  obtain⟨c,h1,h2⟩:=a2n h';cases c with
  | none=>exact⟨vun,h1,λs' K' hs hk=>a3i none h2 hs hk⟩
  | some c =>
   cases hb:bEq c b with
   | false =>
    simp only[hb] at h1;exact⟨vun,h1,λs' K' hs hk=>a3i (some c) h2 hs (by simp only[hb];exact hk)⟩
   | true =>
    simp only[hb] at h1;rw[L4 hc] at h1;obtain⟨v,h3,h4⟩:=a3u _ h1;refine⟨v,h3,λs' K' hs hk=>a3i (some c) h2 hs ?_⟩;simp only[hb];rw[L4 hc,hs.1];have e:=a2H (a:=j5) (os:=s.o) (K:=λv=>K' (s'.put dst v)) (op:=op) (g:=s.get) (g':=s'.get) λx hx=>((hs.ops (xs:=op.operands.toList) hl) x (by simpa using hx)).symm
    rw[<-e];exact h4 _ hk
theorem b4e {a:Ar} {g:Operand->V} {os os':List O} {K:V->Prop} {op:Op} (h:a5J op=true):K4 a g os K op=K4 a g os' K op:=by
 unfold K4
 split <;> first|rfl|cases h
theorem a99 {op:Op} (h:a5J op=true):a61 op=true:=by
 cases op <;> first|rfl|cases h
def a9A (l:List Nat) (s s':S):Prop:=∀t∈l,y8 s'.t t=y8 s.t t
theorem a11 (t:List V) (o o':List O) (d:Option Nat) (v:V):(⟨(S.put ⟨t,o⟩ d v).t,o'⟩:S)=S.put ⟨t,o'⟩ d v:=by cases d <;> rfl
theorem b9i {dsts:List (Option Nat)} {x:Oper} (hb:a5J x.op=true) {t:List V} {o o':List O} {K:S->Prop} (h:s8 j5 dsts x ⟨t,o⟩ (λr=>K ⟨r.t,o'⟩)):s8 j5 dsts x ⟨t,o'⟩ K:=by
 obtain⟨dst,op,type,pos,after,gd⟩:=x
 have hst:H6 j5 false ⟨t,o⟩ dst (λr=>K ⟨r.t,o'⟩) op->H6 j5 false ⟨t,o'⟩ dst K op:=λh=>by
  rw[L4 (a99 hb)] at h ⊢;simp only[a11] at h;rw[b4e (os':=o') hb] at h;exact h
 cases gd with
 | none=>exact hst h
 | some jb =>
  obtain⟨j,b⟩:=jb
  have h':guard ⟨t,o⟩ dsts j (fun
   | some c=>match bEq c b with
    | true=>H6 j5 false ⟨t,o⟩ dst (λr=>K ⟨r.t,o'⟩) op
    | false=>K ⟨(S.put ⟨t,o⟩ dst vun).t,o'⟩
   | none=>K ⟨(S.put ⟨t,o⟩ dst vun).t,o'⟩):=h
  show guard ⟨t,o'⟩ dsts j (fun
   | some c=>match bEq c b with
    | true=>H6 j5 false ⟨t,o'⟩ dst K op
    | false=>K (S.put ⟨t,o'⟩ dst vun)
   | none=>K (S.put ⟨t,o'⟩ dst vun))
  obtain⟨c,h1,h2⟩:=a2n h';refine(a98 (s:=⟨t,o⟩) (s':=⟨t,o'⟩) λd _=>rfl).mpr (h2 _ ?_);cases c with
  | none=>rw[a11] at h1;exact h1
  | some c =>
   cases hb:bEq c b with
   | true=>simp only[hb] at h1 ⊢;exact hst h1
   | false=>simp only[hb,a11] at h1 ⊢;exact h1
theorem a64 {dsts:List (Option Nat)} {x:Oper} (hb:a5J x.op=true) {s:S} {K:S->Prop} (h:s8 j5 dsts x s K):∃v,K (s.put x.dst v)/\∀s' K',a9A (B7 dsts x) s s'->K' (s'.put x.dst v)->s8 j5 dsts x s' K':=by
 obtain⟨v,h1,h2⟩:=a63 (a99 hb) h;refine⟨v,h1,λs' K' hs hk=>?_⟩;exact b9i hb (t:=s'.t) (o:=s.o) (o':=s'.o) (h2 ⟨s'.t,s.o⟩ _ ⟨rfl,hs⟩ (by rw[a11];exact hk))
theorem a70 {s:S} {K:S->Prop} {t:Nat} {y x:V} (h:T0 j5 s K t y x):∃o',K ⟨s.t,o'⟩/\∀(t':List V) (K':S->Prop),K' ⟨t',o'⟩->T0 j5 ⟨t',s.o⟩ K' t y x:=by
 simp only[T0] at h ⊢
 repeat' split at h
 all_goals first|exact h.elim|exact⟨_,h,λt' K' hk=>by simp only[*]⟩
def b5R:Op->Bool
 | .store _ _ _=>true
 | _=>false
theorem a9B {dsts:List (Option Nat)} {y:Oper} (hb:(b5R y.op && y.guard.isNone && y.dst.isNone)=true) {s:S} {K:S->Prop} (h:s8 j5 dsts y s K):∃o',K ⟨s.t,o'⟩/\∀s' K',s'.o=s.o->a9A (B7 dsts y) s s'->K' ⟨s'.t,o'⟩->s8 j5 dsts y s' K':=by
 obtain⟨dst,op,type,pos,after,gd⟩:=y;cases gd <;> cases dst <;> cases op <;> first|(simp[b5R] at hb;done)|skip
 rename_i t x z;have h':T0 j5 s K t (s.get z) (s.get x):=h;obtain⟨o',h1,h2⟩:=a70 h';refine⟨o',h1,λs' K' ho hs hk=>?_⟩;show T0 j5 s' K' t (s'.get z) (s'.get x);have hS:a3x (B7 dsts ⟨none,.store t x z,type,pos,after,none⟩) s ⟨s'.t,s.o⟩:=⟨rfl,hs⟩;have hg:∀y∈(Op.store t x z).operands.toList,(⟨s'.t,s.o⟩:S).get y=s.get y:=hS.ops λu hu=>by simp[B7,hu]
 have e1:s'.get z=s.get z:=by
  have:=hg z (by simp[Op.operands]);cases z <;> first|rfl|exact this
 have e2:s'.get x=s.get x:=by
  have:=hg x (by simp[Op.operands]);cases x <;> first|rfl|exact this
 rw[e1,e2];have:=h2 s'.t K' hk;rw[<-ho] at this;exact this
def b5S (dsts:List (Option Nat)) (x y:Oper):Bool:=a61 x.op && a61 y.op && U4 x.dst (B7 dsts y) && U4 y.dst (B7 dsts x) && (x.dst.isNone || x.dst != y.dst)
theorem P1 {d:Option Nat} {l:List Nat} (h:U4 d l=true):∀x,d=some x->x∉l:=λx e=>by
 subst e
 simpa [U4] using h
theorem d0E {dsts:List (Option Nat)} {x y:Oper} (h:b5S dsts x y=true) {s:S} {K:S->Prop} (hx:s8 j5 dsts x s λs=>s8 j5 dsts y s K):s8 j5 dsts y s λs=>s8 j5 dsts x s K:=by
 simp only[b5S,d3N,d41,bne_iff_ne,ne_eq] at h;obtain⟨⟨⟨⟨c1,c2⟩,n1⟩,n2⟩,n3⟩:=h;obtain⟨v1,h1,h2⟩:=a63 c1 hx;obtain⟨v2,h3,h4⟩:=a63 c2 h1;refine h4 s _ (T1 (P1 n1)).symm (h2 _ _ (T1 (P1 n2)) ?_);rw[a3w λz hz e=>?_]
 ·exact h3
 ·rcases n3 with n3|n3
  ·rw[d5L] at n3;rw[n3] at e;cases e
  ·exact n3 (by rw[e,hz])
def b4f (o:Oper):Bool:=b5R o.op && o.guard.isNone && o.dst.isNone
def a4X (dsts:List (Option Nat)) (x y:Oper):Bool:=a5J x.op && b4f y && U4 x.dst (B7 dsts y)
def b12:Op->Bool
 | .call ⟨.builtin .append,⟨[_,_]⟩,⟨[_,_]⟩⟩=>true
 | _=>false
def c1E:Op->Bool
 | .move _=>true
 | .nilCheck _=>true
 | .fieldAddr _ _ _=>true
 | _=>false
def c5g:Op->Bool
 | .alloc _=>true
 | _=>false
def c70:Op->Bool
 | .move _=>true
 | .assign _=>true
 | .pick _ _ _=>true
 | .load _ _=>true
 | .fieldAddr _ _ _=>true
 | .field _ _ _=>true
 | .indexAddr _ _ _=>true
 | .index _ _ _=>true
 | .binOp _ _ _ _ _=>true
 | .unOp _ _ _=>true
 | .convert _ _ _=>true
 | .build _ _=>true
 | .extract _ _=>true
 | .nilCheck _=>true
 | _=>false
def c1F:Op->Bool
 | .buildSlice _ 0 ⟨[]⟩=>true
 | _=>false
def b2L:Op->Bool
 | .load t _=>(ty t).agg
 | .build _ _=>true
 | .buildSlice _ (_+1) _=>true
 | _=>false
def b2M (dsts:List (Option Nat)) (x y:Oper):Bool:=(b12 x.op || c1F x.op) && x.guard.isNone && x.dst.isSome && (c1E y.op || b2L y.op) && y.guard.isNone && U4 x.dst (B7 dsts y) && U4 y.dst (B7 dsts x) && (y.dst.isNone || x.dst != y.dst)
def b5T (dsts:List (Option Nat)) (x y:Oper):Bool:=c70 x.op && x.guard.isNone && c5g y.op && y.guard.isNone && U4 y.dst (B7 dsts x) && (x.dst.isNone || x.dst != y.dst)
def c8u:Op->Bool
 | .move _=>true
 | _=>false
def b5U (dsts:List (Option Nat)) (x y:Oper):Bool:=c8u x.op && x.guard.isNone && b12 y.op && y.guard.isNone && y.dst.isSome && U4 x.dst (B7 dsts y) && U4 y.dst (B7 dsts x) && (x.dst.isNone || x.dst != y.dst)
def c1G (dsts:List (Option Nat)) (x y:Oper):Bool:=b5S dsts x y || a4X dsts x y || a4X dsts y x || b2M dsts x y || b5T dsts x y || b5U dsts x y
def klT:Option Nat->List V->List V
 | none,t=>t
 | some k,t=>I8 k t
def klV:Option Nat->V->V
 | none,v=>v
 | some k,v=>J2 k v
theorem a9C (k:Nat):∀l:List O,w8 (E7 k l)=w8 l:=λl=>by rw[A0,A0,N8]
theorem a65 {o:O}:∀ {l:List O} {k:Nat},k≠w8 l->C1 (B4 l o) k=C1 l k
 | [],0,h=>absurd rfl h
 | [],k+1,_=>rfl
 | _::_,0,_=>rfl
 | _::l,k+1,h=>a65 (l:=l) λe=>h (by rw[w8,e])
theorem a5x {o:O}:∀ {l:List O},C1 (B4 l o) (w8 l)=o
 | []=>rfl
 | _::l=>a5x (l:=l)
def a5L (k:Nat) (os o':List O):Prop:=(∀j,j≠k->C1 o' j=C1 (E7 k os) j)/\∀cs,C1 o' k≠.box cs
theorem a8h {os:List O} {z:Bool} {e:Nat} {r:List (List D)}:a5L (w8 os) os (B4 (E7 (w8 os) os) (.row z e r)) :=
 ⟨λj hj=>a65 (by rw[a9C];exact hj),λcs h=>by
  have h1:C1 (B4 (E7 (w8 os) os) (.row z e r)) (w8 (E7 (w8 os) os))=_:=a5x;rw[a9C,h] at h1
  cases h1⟩
theorem a66 {o:O}:∀ {l:List O} {m j:Nat},j≠m->C1 (K8 l m o) j=C1 l j
 | [],m,j,_=>rfl
 | _::_,0,0,h=>absurd rfl h
 | _::_,0,_+1,_=>rfl
 | _::_,_+1,0,_=>rfl
 | _::l,m+1,j+1,h=>a66 (l:=l) λe=>h (by rw[e])
theorem a67 {o:O}:∀ {l:List O} {m:Nat},C1 (K8 l m o) m=o\/C1 (K8 l m o) m=.dead
 | [],m=>.inr (by cases m <;> rfl)
 | _::_,0=>.inl rfl
 | _::l,m+1=>a67 (l:=l)
theorem b5V {k:Nat} {os:List O} {z:Bool} {e:Nat} {r:List (List D)}:a5L k os (K8 (E7 k os) k (.row z e r)) :=
 ⟨λj hj=>a66 hj,λcs h=>by
  rcases a67 (l:=E7 k os) (m:=k) (o:=.row z e r) with h1|h1 <;> rw[h1] at h <;> cases h⟩
theorem a9D {s:S} {d:Nat} {K:S->Prop} {t:Nat} {x y:V} (h:Q0 j5 false s (some d) K t x y):∃(k:Nat) (o':List O),a5L k s.o o'/\K (S.put ⟨I8 k s.t,o'⟩ (some d) (.own k))/\∀(t':List V) (K':S->Prop),K' (S.put ⟨I8 k t',o'⟩ (some d) (.own k))->Q0 j5 false ⟨t',s.o⟩ (some d) K' t x y:=by
 unfold Q0 at h
 repeat' split at h
 all_goals first|exact h.elim|skip
 ·rename_i e he _ sz ys hys _ hsz _;obtain⟨h1,z,h2⟩:=h;refine⟨w8 s.o,B4 (E7 (w8 s.o) s.o) (.row z e ys),a8h,h2,λt' K' hk=>?_⟩;unfold Q0;simp only[he,hys,hsz];exact⟨h1,z,hk⟩
 ·rename_i e he _ sz ys hys _ hsz _ k _ z e' xs hok _ hee;obtain⟨h1,h2⟩:=h;refine⟨k,_,b5V,h2,λt' K' hk=>?_⟩;unfold Q0;simp only[he,hys,hsz,hok,hee];exact⟨h1,hk⟩
theorem b14 {s:S} {d:Nat} {K:S->Prop} {t:Nat} {x y:V} (h:Q0 j5 false s (some d) K t x y):∃(kk:Option Nat) (o':List O) (k':Nat),K (S.put ⟨klT kk s.t,o'⟩ (some d) (.own k'))/\∀(t':List V) (K':S->Prop),K' (S.put ⟨klT kk t',o'⟩ (some d) (.own k'))->Q0 j5 false ⟨t',s.o⟩ (some d) K' t x y:=by
 obtain⟨k,o',_,h1,h2⟩:=a9D h;exact⟨some k,o',k,h1,h2⟩
theorem c8v {s:S} {d:Nat} {K:S->Prop} {op:Op} (hb:(b12 op || c1F op)=true) (h:H6 j5 false s (some d) K op):∃(k:Nat) (o':List O),a5L k s.o o'/\K (S.put ⟨I8 k s.t,o'⟩ (some d) (.own k))/\∀(t':List V) (K':S->Prop),(∀z∈op.operands,S.get ⟨t',s.o⟩ z=s.get z)->K' (S.put ⟨I8 k t',o'⟩ (some d) (.own k))->H6 j5 false ⟨t',s.o⟩ (some d) K' op:=by
 cases ha:b12 op with
 | true =>
  unfold b12 at ha
  split at ha
  ·rename_i p q t t';have h':Q0 j5 false s (some d) K t (s.get p) (s.get q):=h;obtain⟨k,o',h1,h2,h3⟩:=a9D h';refine⟨k,o',h1,h2,λt2 K' hz hk=>?_⟩;show Q0 j5 false ⟨t2,s.o⟩ (some d) K' t (S.get ⟨t2,s.o⟩ p) (S.get ⟨t2,s.o⟩ q);rw[hz p (by simp[Op.operands,Call.operands]),hz q (by simp[Op.operands,Call.operands])];exact h3 _ _ hk
  ·cases ha
 | false =>
  rw[ha,Bool.false_or] at hb;unfold c1F at hb
  split at hb
  ·rename_i t;have h':(match (ty t).elem with|some e=>j5.new e λz=>K ((s.fresh false (.row z e [])).put (some d) (.own (w8 s.o)))|none=>False):=h;cases he:(ty t).elem with
   | none=>rw[he] at h';exact h'.elim
   | some e =>
    rw[he] at h';obtain⟨z,h'⟩:=h';refine⟨w8 s.o,_,a8h,h',λt2 K' _ hk=>?_⟩;show (match (ty t).elem with|some e=>j5.new e λz=>K' ((S.fresh false ⟨t2,s.o⟩ (.row z e [])).put (some d) (.own (w8 s.o)))|none=>False);rw[he];exact⟨z,hk⟩
  ·cases hb
theorem a9E {k:Nat}:∀(n:Nat) (l:List V),Z0 n (E6 k l)=E6 k (Z0 n l)
 | 0,l=>rfl
 | n+1,[]=>rfl
 | n+1,x::l=>a9E n l
theorem a9F {k:Nat}:∀ {n:Nat} {l l':List V},Q9 n (E6 k l)=some l'->∃m,Q9 n l=some m/\l'=E6 k m
 | 0,l,l',h=>by
  have h:some []=some l':=by cases l <;> exact h
  injection h with h;exact⟨[],by cases l <;> rfl,h.symm⟩
 | n+1,[],l',h=>by cases h
 | n+1,x::l,l',h=>by
  rw[E6,Q9] at h;cases e:Q9 n (E6 k l) with
  | none=>rw[e] at h;cases h
  | some m' =>
   rw[e] at h;injection h with h;obtain⟨m,h1,h2⟩:=a9F e;exact⟨x::m,by rw[Q9,h1],by rw[<-h,h2];rfl⟩
theorem a71 {k:Nat}:∀l:List D,E6 k (C0 l)=C0 l
 | []=>rfl
 | x::l=>by rw[C0,E6,a71 l];rfl
theorem a1X {k:Nat}:∀l:List Value,E6 k (K9 l)=K9 l
 | []=>rfl
 | v::l=>by
  rw[K9,E6,a1X l]
  congr 1
  unfold a7m
  split <;> rfl
theorem b15 {k:Nat}:∀l m:List V,E6 k (l++m)=E6 k l++E6 k m
 | [],m=>rfl
 | x::l,m=>by rw[d43,E6,b15 l m];rfl
theorem a8i {k:Nat} (z:List Value):∀(n:Nat) (acc:List V),E6 k (a5u (K9 z) n acc)=a5u (K9 z) n (E6 k acc)
 | 0,acc=>rfl
 | n+1,acc=>by rw[a5u,a8i z n,b15,a1X];rfl
theorem a5y {k:Nat}:∀ {l:List O} {j:Nat} {cs:List V},C1 (E7 k l) j=.box cs->∃ds,C1 l j=.box ds/\cs=E6 k ds
 | [],j,cs,h=>by cases j <;> cases h
 | x::l,0,cs,h=>by
  cases x <;> rw[E7] at h <;> first|(cases h;done)|skip
  ·rename_i ds;injection h with h;exact⟨ds,rfl,h.symm⟩
 | x::l,j+1,cs,h=>by
  have h:C1 (E7 k l) j=.box cs:=by cases x <;> exact h
  exact a5y (l:=l) h
theorem a2Y {k:Nat}:∀ {l:List O} {j:Nat} {z:Bool} {e:Nat} {r:List (List D)},C1 (E7 k l) j=.row z e r->C1 l j=.row z e r
 | [],j,z,e,r,h=>by cases j <;> cases h
 | x::l,0,z,e,r,h=>by
  cases x <;> first|(cases h;done)|exact h
 | x::l,j+1,z,e,r,h=>by
  have h:C1 (E7 k l) j=.row z e r:=by cases x <;> exact h
  exact a2Y (l:=l) h
theorem b9j {k:Nat} {x:V} (h:b8V (a8W k x)=true):b8V x=true:=by
 cases x <;> first|rfl|exact h
theorem b16 {k:Nat}:∀ {l:List V},a5p (E6 k l)=true->a5p l=true
 | [],_=>rfl
 | x::l,h=>by
  rw[E6,a5p] at h;rw[a5p];cases e:b8V (a8W k x) with
  | false=>rw[e] at h;cases h
  | true=>rw[e] at h;rw[b9j e];exact b16 h
theorem b5W {k:Nat} {v:V} {cs:List V} (h:a2i (J2 k v)=some cs):∃ds,a2i v=some ds/\cs=E6 k ds:=by
 cases v with
 | ag l =>
  have h:(match a5p (E6 k l) with|true=>some (E6 k l)|false=>none)=some cs:=h;cases e:a5p (E6 k l) with
  | false=>rw[e] at h;cases h
  | true =>
   rw[e] at h;injection h with h;exact⟨l,by rw[a2i,b16 e],h.symm⟩
 | tu l=>cases l <;> cases h
 | own j =>
  have h:a2i (match Y5 j k with|true=>.jk|false=>.own j)=some cs:=h;refine⟨[.own j],rfl,?_⟩;show cs=[match Y5 j k with|true=>.jk|false=>.own j];cases e:Y5 j k with
  | true=>rw[e] at h;cases h
  | false=>rw[e] at h;injection h with h;exact h.symm
 | el j i z o =>
  have h:a2i (match Y5 j k with|true=>.jk|false=>.el j i z o)=some cs:=h;refine⟨[.el j i z o],rfl,?_⟩;show cs=[match Y5 j k with|true=>.jk|false=>.el j i z o];cases e:Y5 j k with
  | true=>rw[e] at h;cases h
  | false=>rw[e] at h;injection h with h;exact h.symm
 | jk=>cases h
 | _=>exact⟨_,rfl,by injection h with h;exact h.symm⟩
theorem b17 {k:Nat}:∀l:List V,G7 (E6 k l)=G7 l
 | []=>rfl
 | x::l=>by rw[E6,G7,b17 l,G7]
theorem a41 {k:Nat}:∀ {l:List V} {n:Nat} {ys l':List V},splice (E6 k l) n (E6 k ys)=some l'->∃m,splice l n ys=some m/\l'=E6 k m
 | l,0,[],l',h=>by
  have h:some (E6 k l)=some l':=by cases l <;> exact h
  injection h with h;exact⟨l,by cases l <;> rfl,h.symm⟩
 | x::l,0,y::ys,l',h=>by
  rw[E6,E6,splice] at h;cases e:splice (E6 k l) 0 (E6 k ys) with
  | none=>rw[e] at h;cases h
  | some m' =>
   rw[e] at h;injection h with h;obtain⟨m,h1,h2⟩:=a41 e;exact⟨y::m,by rw[splice,h1],by rw[<-h,h2];rfl⟩
 | x::l,n+1,ys,l',h=>by
  have h:(match splice (E6 k l) n (E6 k ys) with|some t=>some (a8W k x::t)|none=>none)=some l':=by rw[<-h,E6,splice];cases splice (E6 k l) n (E6 k ys) <;> rfl
  cases e:splice (E6 k l) n (E6 k ys) with
  | none=>rw[e] at h;cases h
  | some m' =>
   rw[e] at h;injection h with h;obtain⟨m,h1,h2⟩:=a41 e;refine⟨x::m,?_,by rw[<-h,h2];rfl⟩;have h3:splice (x::l) (n+1) ys=(match splice l n ys with|some t=>some (x::t)|none=>none):=by rw[splice];cases splice l n ys <;> rfl
   rw[h3,h1]
 | [],n+1,ys,l',h=>by cases ys <;> cases h
 | [],0,y::ys,l',h=>by cases h
theorem a3O {k:Nat} {g g':Operand->V} {place:List (Nat×Nat)}:∀ {ps:List (Nat×Operand)} {l l':List V},(∀p∈ps,g' p.2=J2 k (g p.2))->a1j g' place ps (E6 k l)=some l'->∃m,a1j g place ps l=some m/\l'=E6 k m
 | [],l,l',_,h=>⟨l,rfl,by injection h with h;exact h.symm⟩
 | (i,x)::ps,l,l',hg,h=>by
  rw[a1j] at h ⊢
  split at h <;> try (cases h;done)
  rename_i off sz hp;rw[hg _ (d3L ..)] at h
  split at h <;> try (cases h;done)
  rename_i cs hc;obtain⟨ds,h1,rfl⟩:=b5W hc;rw[b17] at h;simp only[hp,h1]
  split at h <;> try (cases h;done)
  rename_i hl
  split at h <;> try (cases h;done)
  rename_i l2 h2;obtain⟨m2,h3,rfl⟩:=a41 h2;simp only[hl,h3];exact a3O (λp hp=>hg p (d3M _ hp)) h
theorem c1H {k:Nat} {os o':List O} (hB:a5L k os o') {x:V} {y:D} (h:toD o' (a8W k x)=some y):toD os x=some y:=by
 cases x with
 | own j =>
  have h:toD o' (match Y5 j k with|true=>.jk|false=>.own j)=some y:=h;cases e:Y5 j k with
  | true=>rw[e] at h;cases h
  | false =>
   rw[e] at h;have h:(match C1 o' j with|.row true e rows=>some (D.sl (ty e).sz rows)|_=>none)=some y:=h;rw[hB.1 j (a3G.1 e)] at h;show (match C1 os j with|.row true e rows=>some (D.sl (ty e).sz rows)|_=>none)=some y
   split at h
   ·rename_i e2 rows h2;rw[a2Y h2];exact h
   ·cases h
 | el j i z o =>
  have h:toD o' (match Y5 j k with|true=>.jk|false=>.el j i z o)=some y:=h;cases e:Y5 j k <;> rw[e] at h <;> cases h
 | cl f ks=>cases ks <;> exact h
 | _=>exact h
theorem b18 {k:Nat} {os o':List O} (hB:a5L k os o'):∀ {l:List V} {ds:List D},a5D o' (E6 k l)=some ds->a5D os l=some ds
 | [],ds,h=>h
 | x::l,ds,h=>by
  rw[E6,a5D] at h;rw[a5D]
  split at h <;> try (cases h;done)
  rename_i y hy
  split at h <;> try (cases h;done)
  rename_i ys hys;rw[c1H hB hy,b18 hB hys];exact h
theorem a72 {k:Nat} {v:V}:∀ {l:List V} {i:Nat},I8 k (H5 l i v)=H5 (I8 k l) i (J2 k v)
 | [],i=>rfl
 | _::_,0=>rfl
 | x::l,i+1=>by rw[H5,I8,a72 (l:=l),I8,H5]
theorem a2c {k:Nat}:∀ {l:List V} {i:Nat},y8 (I8 k l) i=J2 k (y8 l i)
 | [],i=>rfl
 | _::_,0=>rfl
 | x::l,i+1=>by rw[I8,y8,y8,a2c (l:=l)]
theorem c5h {kk:Option Nat} {v:V} {l:List V} {i:Nat}:klT kk (H5 l i v)=H5 (klT kk l) i (klV kk v):=by cases kk <;> first|rfl|exact a72
theorem b7x {kk:Option Nat} {s:S} {d:Option Nat} {v:V} {o:List O}:(⟨klT kk (s.put d v).t,o⟩:S)=S.put ⟨klT kk s.t,o⟩ d (klV kk v):=by
 cases d with
 | none=>rfl
 | some d=>simp only[S.put,c5h]
theorem b7y {kk:Option Nat} {s:S} {o:List O} (x:Operand):(⟨klT kk s.t,o⟩:S).get x=klV kk (s.get x):=by
 cases kk with
 | none=>cases x <;> rfl
 | some k =>
  cases x with
  | tmp i=>exact a2c
  | const v=>cases v <;> first|rfl|(simp only[S.get,klV];unfold a7m;split <;> rfl)
  | global g=>rfl
  | func f=>rfl
theorem c5i {kk:Option Nat} {g g':Operand->V} {os os':List O} {op:Op} (hb:c1E op=true) (hg:∀x∈op.operands,g' x=klV kk (g x)) {K:V->Prop} (h:K4 j5 g' os' K op):∃v,K (klV kk v)/\∀K',K' v->K4 j5 g os K' op:=by
 have keep:∀ {v w:V},klV kk v=w->((∃k o,w=.ptr k o)\/(∃f ks,w=.cl f ks)\/(∃k i z o,w=.el k i z o)\/∃cs o,w=.ro cs o)->v=w:=λ{v w} e hw=>by
  cases kk with
  | none=>exact e
  | some k =>
   have e:J2 k v=w:=e;cases v with
   | ag cs=>subst e;simp[J2] at hw
   | tu cs=>subst e;cases cs <;> simp[J2] at hw
   | own j =>
    subst e;have e2:J2 k (.own j)=match Y5 j k with|true=>.jk|false=>.own j:=rfl
    rw[e2] at hw;cases he:Y5 j k <;> rw[he] at hw <;> simp at hw
   | el j i z o =>
    subst e;have e2:J2 k (.el j i z o)=match Y5 j k with|true=>.jk|false=>.el j i z o:=rfl
    rw[e2] at hw ⊢;cases he:Y5 j k <;> rw[he] at hw <;> simp at hw ⊢
   | _=>exact e
 cases op <;> first|cases hb;done|skip
 ·rename_i x;rw[show K4 j5 g' os' K (.move x)=K (g' x) from rfl,hg x (by simp[Op.operands])] at h;exact⟨_,h,λK' hk=>hk⟩
 ·rename_i x;rw[show K4 j5 g' os' K (.nilCheck x)=nnV K (g' x) from rfl] at h;have e:=hg x (by simp[Op.operands]);generalize g' x=w at h e;unfold nnV at h
  split at h <;> try exact h.elim
  all_goals
   have e':=keep e.symm (by simp);refine⟨g x,by rw[<-e];exact h,λK' hk=>?_⟩;show nnV K' (g x);rw[e'] at hk ⊢;exact hk
 ·rename_i t x i;rw[show K4 j5 g' os' K (.fieldAddr t x i)=a0s K t i (g' x) from rfl] at h;have e:=hg x (by simp[Op.operands]);generalize g' x=w at h e;unfold a0s at h
  split at h <;> try exact h.elim
  rename_i off sz hf
  split at h <;> try exact h.elim
  ·rename_i k o;have e':=keep e.symm (by simp);refine⟨.ptr k (o+off),by cases kk <;> exact h,λK' hk=>?_⟩;show a0s K' t i (g x);unfold a0s;rw[hf,e'];exact hk
  ·rename_i cs o;have e':=keep e.symm (by simp);refine⟨.ro cs (o+off),by cases kk <;> exact h,λK' hk=>?_⟩;show a0s K' t i (g x);unfold a0s;rw[hf,e'];exact hk
  ·rename_i k i' z o;have e':=keep e.symm (by simp)
   have e3:klV kk (.el k i' z (o+off))=.el k i' z (o+off):=by
    rw[e'] at e;cases kk with
    | none=>rfl
    | some j =>
     have e4:(V.el k i' z o)=match Y5 k j with|true=>V.jk|false=>V.el k i' z o:=e
     show (match Y5 k j with|true=>V.jk|false=>V.el k i' z (o+off))=_;cases he:Y5 k j with
     | true=>rw[he] at e4;cases e4
     | false=>rfl
   refine⟨.el k i' z (o+off),by rw[e3];exact h,λK' hk=>?_⟩;show a0s K' t i (g x);unfold a0s;rw[hf,e'];exact hk
theorem c5j {k:Nat} {g g':Operand->V} {os o':List O} {op:Op} (hb:b2L op=true) (hB:a5L k os o') (hg:∀x∈op.operands,g' x=J2 k (g x)) {K:V->Prop} (h:K4 j5 g' o' K op):∃v,K (J2 k v)/\∀K',K' v->K4 j5 g os K' op:=by
 unfold b2L at hb
 split at hb
 ·rename_i t x;rw[show K4 j5 g' o' K (.load t x)=L5 j5 o' K t (g' x) from rfl,hg x (by simp[Op.operands])] at h;have goal:∀ {v:V} {K':V->Prop},L5 j5 os K' t (g x)->K4 j5 g os K' (.load t x):=λh=>h
  show ∃v,K (J2 k v)/\∀K',K' v->L5 j5 os K' t (g x);generalize g x=u at h;have fin:∀ {l:List V} {K:V->Prop},(match a3h (ty t).agg (E6 k l) with|some x=>K x|none=>False)->K (J2 k (.ag l)):=λh=>by rw[hb] at h;exact h
  cases u with
  | ptr j off =>
   have h:(match C1 o' j with|.box cs=>(match Q9 (ty t).sz (Z0 off cs) with|some l=>(match a3h (ty t).agg l with|some x=>K x|none=>False)|none=>False)|_=>False):=h;show ∃v,K (J2 k v)/\∀K':V->Prop,K' v->(match C1 os j with|.box cs=>(match Q9 (ty t).sz (Z0 off cs) with|some l=>(match a3h (ty t).agg l with|some x=>K' x|none=>False)|none=>False)|_=>False)
   split at h <;> try exact h.elim
   rename_i cs hc;have hj:j≠k:=λe=>hB.2 cs (by rw[<-e];exact hc)
   rw[hB.1 j hj] at hc;obtain⟨ds,h1,rfl⟩:=a5y hc;rw[a9E] at h
   split at h <;> try exact h.elim
   rename_i l' hl;obtain⟨m,h2,rfl⟩:=a9F hl;refine⟨.ag m,fin h,λK' hk=>?_⟩;rw[h1];simp only[h2,hb];exact hk
  | ro cs off =>
   have h:(match Q9 (ty t).sz (Z0 off cs) with|some l=>(match a3h (ty t).agg (C0 l) with|some x=>K x|none=>False)|none=>False):=h;show ∃v,K (J2 k v)/\∀K':V->Prop,K' v->(match Q9 (ty t).sz (Z0 off cs) with|some l=>(match a3h (ty t).agg (C0 l) with|some x=>K' x|none=>False)|none=>False)
   split at h <;> try exact h.elim
   rename_i l hl;rw[<-a71 (k:=k)] at h;exact⟨.ag (C0 l),fin h,λK' hk=>by simp only[hb];exact hk⟩
  | el j i z off =>
   have h:L5 j5 o' K t (match Y5 j k with|true=>.jk|false=>.el j i z off):=h;cases e:Y5 j k with
   | true=>rw[e] at h;exact h.elim
   | false =>
    rw[e] at h;have h:(match C1 o' j with|.row _ e rows=>(match Y5 (ty e).sz z with|true=>(match j5.get rows i with|some row=>(match Q9 (ty t).sz (Z0 off row) with|some l=>(match a3h (ty t).agg (C0 l) with|some x=>K x|none=>False)|none=>False)|none=>False)|false=>False)|_=>False):=h;show ∃v,K (J2 k v)/\∀K':V->Prop,K' v->(match C1 os j with|.row _ e rows=>(match Y5 (ty e).sz z with|true=>(match j5.get rows i with|some row=>(match Q9 (ty t).sz (Z0 off row) with|some l=>(match a3h (ty t).agg (C0 l) with|some x=>K' x|none=>False)|none=>False)|none=>False)|false=>False)|_=>False);rw[hB.1 j (a3G.1 e)] at h
    split at h <;> try exact h.elim
    rename_i e' rows hr;rw[a2Y hr];simp only
    split at h <;> try exact h.elim
    rename_i hz
    split at h <;> try exact h.elim
    rename_i row hrow
    split at h <;> try exact h.elim
    rename_i l hl;rw[<-a71 (k:=k)] at h;exact⟨.ag (C0 l),fin h,λK' hk=>by simp only[hz,hrow,hl,hb];exact hk⟩
  | own j =>
   have h:L5 j5 o' K t (match Y5 j k with|true=>.jk|false=>.own j):=h;cases e:Y5 j k <;> rw[e] at h <;> exact h.elim
  | tu l=>cases l <;> exact h.elim
  | _=>exact h.elim
 ·rename_i t ps;have h:a3E g' K t ps.toList:=h;have hg':∀p∈ps.toList,g' p.2=J2 k (g p.2):=λp hp=>hg _ (by simp[Op.operands];exact⟨p.1,by simpa using hp⟩)
  show ∃v,K (J2 k v)/\∀K',K' v->a3E g K' t ps.toList;unfold a3E at h ⊢;cases hk:(ty t).kind <;> simp only[hk] at h <;> first|exact h.elim|simp only[]
  ·rw[<-a1X (k:=k)] at h
   split at h <;> try exact h.elim
   rename_i l' hl;obtain⟨m,h1,rfl⟩:=a3O hg' hl;exact⟨.ag m,h,λK' hk=>by rw[h1];exact hk⟩
  ·split at h <;> try exact h.elim
   rename_i e he
   try simp only[he]
   rw[<-a1X (k:=k)] at h
   split at h <;> try exact h.elim
   rename_i l' hl;obtain⟨m,h1,rfl⟩:=a3O hg' hl;exact⟨.ag m,h,λK' hk=>by rw[h1];exact hk⟩
 ·rename_i t n ps;have h:J3 g' o' K t (n+1) ps.toList:=h;have hg':∀p∈ps.toList,g' p.2=J2 k (g p.2):=λp hp=>hg _ (by simp[Op.operands];exact⟨p.1,by simpa using hp⟩)
  show ∃v,K (J2 k v)/\∀K',K' v->J3 g os K' t (n+1) ps.toList;unfold J3 at h ⊢
  split at h <;> try exact h.elim
  rename_i e he;simp only[he];simp only at h;rw[show a5u (K9 (ty e).zero) (n+1) []=E6 k (a5u (K9 (ty e).zero) (n+1) []) from(a8i (k:=k) (ty e).zero (n+1) []).symm] at h
  split at h <;> try exact h.elim
  rename_i l' hl;obtain⟨m,h1,rfl⟩:=a3O hg' hl
  split at h <;> try exact h.elim
  rename_i ds hds
  split at h <;> try exact h.elim
  rename_i rows hrows;exact⟨.d (.sl (ty e).sz rows),h,λK' hk=>by simp only[h1,b18 hB hds,hrows];exact hk⟩
 ·cases hb
theorem b19 {o:O}:∀ {l:List O} {k:Nat},C1 l k≠.dead->C1 (B4 l o) k=C1 l k
 | [],k,h=>absurd rfl h
 | _::_,0,_=>rfl
 | x::l,k+1,h=>by rw[B4,C1,C1];rw[C1] at h;exact b19 h
theorem a42 {o:O} {l:List O} {k:Nat} {x:O} (h:C1 l k=x) (hd:x≠.dead):C1 (B4 l o) k=x:=by rw[b19 (by rw[h];exact hd),h]
theorem b9k {o:O} {os:List O} {x:V} {r:Option Nat×List (List D)} (h:W8 os x=some r):W8 (B4 os o) x=some r:=by
 unfold W8 at h ⊢
 split at h
 ·exact h
 ·exact h
 ·split at h
  ·rename_i hok;rw[a42 hok (by simp)];exact h
  ·cases h
 ·cases h
theorem c1I {o:O} {os:List O} {x:V} {r:Nat×Nat×List (List D)} (h:a80 os x=some r):a80 (B4 os o) x=some r:=by
 unfold a80 at h ⊢
 split at h
 ·split at h
  ·rename_i hok;simp only[a42 hok (by simp)];exact h
  ·cases h
 ·cases h
theorem b9l {g:Operand->V} {os:List O} {o:O} {K:V->Prop} {op:Op} (hb:c70 op=true) (h:K4 j5 g os K op):K4 j5 g (B4 os o) K op:=by
 cases op <;> first|cases hb;done|exact h|skip
 ·rename_i t x;have h:L5 j5 os K t (g x):=h;show L5 j5 (B4 os o) K t (g x);generalize g x=v at h;unfold L5 at h ⊢
  split at h <;> try exact h.elim
  ·split at h <;> try exact h.elim
   rename_i hok;simp only[a42 hok (by simp)];exact h
  ·exact h
  ·split at h <;> try exact h.elim
   rename_i hok;simp only[a42 hok (by simp)];exact h
 ·rename_i t x i;have h:E1 j5 os K t (g x) (g i):=h;show E1 j5 (B4 os o) K t (g x) (g i);generalize g x=v at h;generalize g i=u at h;unfold E1 at h ⊢
  split at h <;> try exact h.elim
  split at h
  ·exact h
  ·split at h <;> try exact h.elim
   split at h
   ·exact h
   split at h
   ·rename_i hraw;rw[c1I hraw];exact h
   ·rename_i hraw
    split at h <;> try exact h.elim
    rename_i hrows
    have e:a80 (B4 os o) v=none:=by
     unfold a80
     split
     ·rename_i k;unfold W8 at hrows;simp only at hrows
      split at hrows
      ·rename_i hok;rw[a42 hok (by simp)]
      ·cases hrows
     ·rfl
    rw[e,b9k hrows];exact h
theorem a5z (s:S) (d:Option Nat) (v:V):(s.put d v).o=s.o:=by cases d <;> rfl
theorem a2d {l:List Nat} {s:S} {d:Option Nat} {v:V} (h:U4 d l=true):a9A l s (s.put d v):=(T1 (P1 h)).2
theorem d0F {dsts:List (Option Nat)} {x y:Oper} (h:a4X dsts x y=true) {s:S} {K:S->Prop} (hx:s8 j5 dsts x s λs=>s8 j5 dsts y s K):s8 j5 dsts y s λs=>s8 j5 dsts x s K:=by
 simp only[a4X,d3N] at h;obtain⟨v,h1,h2⟩:=a64 h.1.1 hx;obtain⟨o',h3,h4⟩:=a9B (by simpa [b4f] using h.1.2) h1;refine h4 s _ (a5z ..).symm (λt ht=>(a2d h.2 t ht).symm) (h2 _ _ (λ_ _=>rfl) ?_);rw[<-a11 s.t s.o o'];exact h3
theorem d0G {dsts:List (Option Nat)} {x y:Oper} (h:a4X dsts x y=true) {s:S} {K:S->Prop} (hy:s8 j5 dsts y s λs=>s8 j5 dsts x s K):s8 j5 dsts x s λs=>s8 j5 dsts y s K:=by
 simp only[a4X,d3N] at h;obtain⟨o',h1,h2⟩:=a9B (by simpa [b4f] using h.1.2) hy;obtain⟨v,h3,h4⟩:=a64 h.1.1 h1;refine h4 s _ (λ_ _=>rfl) (h2 _ _ (a5z ..) (a2d h.2) ?_);rw[<-a11 s.t s.o o'] at h3;exact h3
theorem d0H {dsts:List (Option Nat)} {x y:Oper} (h:b2M dsts x y=true) {s:S} {K:S->Prop} (hx:s8 j5 dsts x s λs=>s8 j5 dsts y s K):s8 j5 dsts y s λs=>s8 j5 dsts x s K:=by
 obtain⟨xd,xop,xty,xpos,xaf,xg⟩:=x;obtain⟨yd,yop,yty,ypos,yaf,yg⟩:=y;simp only[b2M,d3N] at h;obtain⟨⟨⟨⟨⟨⟨⟨h1,h2⟩,h3⟩,h4⟩,h5⟩,h6⟩,h7⟩,h8⟩:=h;cases xg with
 | some g=>cases h2
 | none =>
  cases yg with
  | some g=>cases h5
  | none =>
   cases xd with
   | none=>cases h3
   | some d =>
    have hx':H6 j5 false s (some d) (λs=>s8 j5 dsts ⟨yd,yop,yty,ypos,yaf,none⟩ s K) xop:=hx;obtain⟨k,o',hB,h9,h10⟩:=c8v h1 hx';have h9:H6 j5 false (S.put ⟨I8 k s.t,o'⟩ (some d) (.own k)) yd K yop:=h9
    have hcalm:a61 yop=true:=by
     rcases Bool.or_eq_true_iff.1 h4 with h4|h4
     ·cases yop <;> first|rfl|cases h4
     ·unfold b2L at h4
      split at h4 <;> first|rfl|cases h4
    rw[L4 hcalm] at h9;have hl:∀t∈Vm.tmps yop.operands.toList,t∈B7 dsts ⟨yd,yop,yty,ypos,yaf,none⟩:=λt ht=>by simp[B7,ht]
    have hgz:∀z∈yop.operands,(S.put ⟨I8 k s.t,o'⟩ (some d) (.own k)).get z=J2 k (s.get z):=λz hz=>by
     have hs:a3x (B7 dsts ⟨yd,yop,yty,ypos,yaf,none⟩) (⟨I8 k s.t,o'⟩:S) (S.put ⟨I8 k s.t,o'⟩ (some d) (.own k)):=T1 (P1 h6);rw[(hs.ops (xs:=yop.operands.toList) hl) z (by simpa using hz)];exact b7y (kk:=some k) z
    obtain⟨v,h11,h12⟩:∃v,K (S.put (S.put ⟨I8 k s.t,o'⟩ (some d) (.own k)) yd (J2 k v))/\∀K',K' v->K4 j5 s.get s.o K' yop:=by
     rcases Bool.or_eq_true_iff.1 h4 with h4|h4
     ·exact c5i (kk:=some k) (g:=s.get) (os:=s.o) h4 hgz h9
     ·exact c5j h4 hB hgz h9
    show H6 j5 false s yd (λs=>s8 j5 dsts ⟨some d,xop,xty,xpos,xaf,none⟩ s K) yop;rw[L4 hcalm];refine h12 _ ?_;show H6 j5 false (s.put yd v) (some d) K xop;have hs2:a3x (B7 dsts ⟨some d,xop,xty,xpos,xaf,none⟩) s (s.put yd v):=T1 (P1 h7);have hlx:∀t∈Vm.tmps xop.operands.toList,t∈B7 dsts ⟨some d,xop,xty,xpos,xaf,none⟩:=λt ht=>by simp[B7,ht]
    have e:s.put yd v=⟨(s.put yd v).t,s.o⟩:=by cases yd <;> rfl
    rw[e];refine h10 _ _ (λz hz=>?_) ?_
    ·rw[<-e];exact hs2.ops hlx z (by simpa using hz)
    have hne:∀z,yd=some z->some d≠some z:=λz hz hz'=>by
     subst hz;rw[hz'] at h8
     simp at h8
    have e2:(⟨I8 k (s.put yd v).t,o'⟩:S)=S.put ⟨I8 k s.t,o'⟩ yd (J2 k v):=b7x (kk:=some k);rw[e2,a3w hne];exact h11
theorem d0I {dsts:List (Option Nat)} {x y:Oper} (h:b5T dsts x y=true) {s:S} {K:S->Prop} (hx:s8 j5 dsts x s λs=>s8 j5 dsts y s K):s8 j5 dsts y s λs=>s8 j5 dsts x s K:=by
 obtain⟨xd,xop,xty,xpos,xaf,xg⟩:=x;obtain⟨yd,yop,yty,ypos,yaf,yg⟩:=y;simp only[b5T,d3N] at h;obtain⟨⟨⟨⟨⟨h1,h2⟩,h3⟩,h4⟩,h5⟩,h6⟩:=h;cases xg with
 | some g=>cases h2
 | none =>
  cases yg with
  | some g=>cases h4
  | none =>
   cases yop <;> first|cases h3;done|skip
   rename_i e;have hcalm:a61 xop=true:=by cases xop <;> first|rfl|cases h1
   have hx':H6 j5 false s xd (λs=>s8 j5 dsts ⟨yd,.alloc e,yty,ypos,yaf,none⟩ s K) xop:=hx;rw[L4 hcalm] at hx';obtain⟨v,h7,h8⟩:=a3u _ hx';have h7:(match a5p (K9 (ty e).zero) with|true=>K (((s.put xd v).obj (a7o e)).put yd (.ptr (w8 (s.put xd v).o) 0))|false=>False):=h7;show (match a5p (K9 (ty e).zero) with|true=>s8 j5 dsts ⟨xd,xop,xty,xpos,xaf,none⟩ ((s.obj (a7o e)).put yd (.ptr (w8 s.o) 0)) K|false=>False);cases hon:a5p (K9 (ty e).zero) with
   | false=>rw[hon] at h7;exact h7.elim
   | true =>
    rw[hon] at h7;simp only at h7 ⊢;show H6 j5 false ((s.obj (a7o e)).put yd (.ptr (w8 s.o) 0)) xd K xop;rw[L4 hcalm,a5z];have hl:∀t∈Vm.tmps xop.operands.toList,t∈B7 dsts ⟨xd,xop,xty,xpos,xaf,none⟩:=λt ht=>by simp[B7,ht]
    have hs:a3x (B7 dsts ⟨xd,xop,xty,xpos,xaf,none⟩) (s.obj (a7o e)) ((s.obj (a7o e)).put yd (.ptr (w8 s.o) 0)):=T1 (P1 h5);have hops:=hs.ops (xs:=xop.operands.toList) hl;rw[a2H (g':=(s.obj (a7o e)).get) λz hz=>hops z (by simpa using hz)]
    have h9:=h8 (λw=>K (S.put ((s.obj (a7o e)).put yd (.ptr (w8 s.o) 0)) xd w)) (by
     have e1:w8 (s.put xd v).o=w8 s.o:=by rw[a5z]
     rw[e1] at h7;have e2:(s.put xd v).obj (a7o e)=(s.obj (a7o e)).put xd v:=by cases xd <;> rfl
     rw[e2] at h7
     have hne:∀z,yd=some z->xd≠some z:=λz hz hz'=>by
      subst hz;subst hz'
      simp at h6
     rw[a3w hne]
     exact h7)
    exact b9l (g:=(s.obj (a7o e)).get) h1 h9
theorem d0J {dsts:List (Option Nat)} {x y:Oper} (h:b5U dsts x y=true) {s:S} {K:S->Prop} (hx:s8 j5 dsts x s λs=>s8 j5 dsts y s K):s8 j5 dsts y s λs=>s8 j5 dsts x s K:=by
 obtain⟨xd,xop,xty,xpos,xaf,xg⟩:=x;obtain⟨yd,yop,yty,ypos,yaf,yg⟩:=y;simp only[b5U,d3N] at h;obtain⟨⟨⟨⟨⟨⟨⟨h1,h2⟩,h3⟩,h4⟩,h5⟩,h6⟩,h7⟩,h8⟩:=h;cases xg with
 | some g=>cases h2
 | none =>
  cases yg with
  | some g=>cases h4
  | none =>
   cases yd with
   | none=>cases h5
   | some d =>
    cases xop <;> first|cases h1;done|skip
    rename_i r;unfold b12 at h3
    split at h3
    ·rename_i p q t t';have hx':Q0 j5 false (s.put xd (s.get r)) (some d) K t ((s.put xd (s.get r)).get p) ((s.put xd (s.get r)).get q):=hx;have hs2:a3x (B7 dsts ⟨some d,.call ⟨.builtin .append,⟨[p,q]⟩,⟨[t,t']⟩⟩,yty,ypos,yaf,none⟩) s (s.put xd (s.get r)):=T1 (P1 h6);have hops:=hs2.ops (xs:=[p,q]) λt ht=>by simp[B7,Op.operands,Call.operands];simpa using ht
     rw[hops p (by simp),hops q (by simp)] at hx';obtain⟨kk,o',k',h9,h10⟩:=b14 hx';have e:s=⟨s.t,(s.put xd (s.get r)).o⟩:=by cases xd <;> rfl
     show Q0 j5 false s (some d) (λs=>s8 j5 dsts ⟨xd,.move r,xty,xpos,xaf,none⟩ s K) t (s.get p) (s.get q)
     have h11:=h10 s.t (λs=>s8 j5 dsts ⟨xd,.move r,xty,xpos,xaf,none⟩ s K) (by
      show K (S.put (S.put ⟨klT kk s.t,o'⟩ (some d) (.own k')) xd ((S.put ⟨klT kk s.t,o'⟩ (some d) (.own k')).get r));have hs:a3x (B7 dsts ⟨xd,.move r,xty,xpos,xaf,none⟩) (⟨klT kk s.t,o'⟩:S) (S.put ⟨klT kk s.t,o'⟩ (some d) (.own k')):=T1 (P1 h7);rw[hs.ops (xs:=[r]) (λt ht=>by simp[B7,Op.operands];simpa using ht) r (by simp),b7y r];rw[b7x] at h9
      have hne:∀z,(some d:Option Nat)=some z->xd≠some z:=λz hz hz'=>by
       subst hz';rw[<-hz] at h8
       simp at h8
      rw[a3w hne]
      exact h9)
     rw[<-e] at h11;exact h11
    ·cases h3
theorem d0K {dsts:List (Option Nat)} {x y:Oper} (h:c1G dsts x y=true) {s:S} {K:S->Prop} (hx:s8 j5 dsts x s λs=>s8 j5 dsts y s K):s8 j5 dsts y s λs=>s8 j5 dsts x s K:=by
 simp only[c1G,d41] at h
 rcases h with ((((h|h)|h)|h)|h)|h
 ·exact d0E h hx
 ·exact d0F h hx
 ·exact d0G h hx
 ·exact d0H h hx
 ·exact d0I h hx
 ·exact d0J h hx
theorem b1A (v:V):L7 .jk v=true:=by cases v <;> rfl
theorem b9m (u:V):L7 u .jk=true:=by cases u <;> rfl
theorem a9G (k:Nat) (w:V):J2 k w=.jk\/((∀v,L7 w v=true->L7 (J2 k w) v=true)/\∀u,L7 u w=true->L7 u (J2 k w)=true):=by
 cases w with
 | own j =>
  have e2:J2 k (.own j)=match Y5 j k with|true=>V.jk|false=>.own j:=rfl
  rw[e2];cases Y5 j k
  ·exact .inr ⟨λ_ h=>h,λ_ h=>h⟩
  ·exact .inl rfl
 | el j i z o =>
  have e2:J2 k (.el j i z o)=match Y5 j k with|true=>V.jk|false=>.el j i z o:=rfl
  rw[e2];cases Y5 j k
  ·exact .inr ⟨λ_ h=>h,λ_ h=>h⟩
  ·exact .inl rfl
 | ag cs=>exact .inr ⟨λv _=>by cases v <;> rfl,λu _=>by cases u <;> rfl⟩
 | tu l =>
  cases l with
  | nil=>exact .inr ⟨λ_ h=>h,λ_ h=>h⟩
  | cons x l=>exact .inl rfl
 | _=>exact .inr ⟨λ_ h=>h,λ_ h=>h⟩
theorem b4g {kk:Option Nat} {u v:V} (h:L7 u v=true):L7 (klV kk u) (klV kk v)=true:=by
 cases kk with
 | none=>exact h
 | some k =>
  show L7 (J2 k u) (J2 k v)=true
  rcases a9G k u with e|h1
  ·rw[e];exact b1A _
  ·rcases a9G k v with e|h2
   ·rw[e];exact b9m _
   ·exact h1.1 _ (h2.2 _ h)
def PP (prs:List (Nat×Nat)) (s:S):Prop:=∀p∈prs,L7 (y8 s.t p.1) (y8 s.t p.2)=true
theorem c71:∀ {prs:List (Nat×Nat)} {s:S},b1y prs s.t=true->PP prs s
 | [],s,_,p,hp=>by simp at hp
 | (i,k)::l,s,h,p,hp=>by
  rw[b1y] at h
  split at h
  ·rename_i h1
   rcases d3R.1 hp with rfl|hp
   ·exact h1
   ·exact c71 (prs:=l) h p hp
  ·cases h
def c1J (prs:List (Nat×Nat)) (d:Option Nat):Prop:=∀p∈prs,d≠some p.1/\d≠some p.2
theorem b7z {kk:Option Nat} {l:List V} {i:Nat}:y8 (klT kk l) i=klV kk (y8 l i):=by
 cases kk with
 | none=>rfl
 | some k=>exact a2c
theorem PP.next {prs:List (Nat×Nat)} {s:S} (h:PP prs s) {kk:Option Nat} {d:Option Nat} {v:V} {o':List O} (hf:c1J prs d):PP prs (S.put ⟨klT kk s.t,o'⟩ d v):=λp hp=>by
 have key:∀i,d≠some i->y8 (S.put ⟨klT kk s.t,o'⟩ d v).t i=klV kk (y8 s.t i):=λi hi=>by
  cases d with
  | none=>exact b7z
  | some x =>
   show y8 (H5 (klT kk s.t) x v) i=_;rw[a3v (λe=>hi (by rw[e])),b7z]
 rw[key _ (hf p hp).1,key _ (hf p hp).2];exact b4g (h p hp)
theorem a9H {s:S} {dst:Option Nat} {K:S->Prop} {op:Op} (hx:H6 j5 false s dst K op):H6 j5 false s dst (λs'=>(∃kk v o',s'=S.put ⟨klT kk s.t,o'⟩ dst v)/\K s') op:=by
 have hC:∀ {v:V},∃kk u o',s.put dst v=S.put ⟨klT kk s.t,o'⟩ dst u:=λ{v}=>⟨none,v,s.o,rfl⟩
 have hO:∀ {o:O} {v:V},∃kk u o',(s.obj o).put dst v=S.put ⟨klT kk s.t,o'⟩ dst u:=λ{o v}=>⟨none,v,B4 s.o o,rfl⟩
 have hF:∀ {z:Bool} {e:Nat} {r:List (List D)} {v:V},∃kk u o',(s.fresh false (.row z e r)).put dst v=S.put ⟨klT kk s.t,o'⟩ dst u:=λ{z e r v}=>⟨some (w8 s.o),v,_,rfl⟩
 have calm:∀ {op:Op},K4 j5 s.get s.o (λv=>K (s.put dst v)) op->K4 j5 s.get s.o (λv=>(∃kk u o',s.put dst v=S.put ⟨klT kk s.t,o'⟩ dst u)/\K (s.put dst v)) op:=λh=>by
  obtain⟨v,h1,h2⟩:=a3u _ h;exact h2 _ ⟨hC,h1⟩
 unfold H6 at hx ⊢
 split at hx
 ·split at hx
  ·exact⟨hO,hx⟩
  ·exact hx.elim
 ·split at hx
  ·exact⟨hO,hx⟩
  ·exact hx.elim
 ·split at hx
  ·obtain⟨o',h1,h2⟩:=a70 hx;exact h2 _ _ ⟨⟨none,.jk,o',rfl⟩,h1⟩
  ·exact hx.elim
 ·unfold a4q at hx ⊢
  repeat' split at hx
  all_goals first|exact hx.elim|skip
  obtain⟨h1,z,h2⟩:=hx;exact⟨h1,z,hO,h2⟩
 ·split at hx
  ·split at hx
   ·exact⟨hO,hx⟩
   ·exact hx.elim
  ·exact hx.elim
 ·split at hx
  ·unfold c0U at hx ⊢
   repeat' split at hx
   all_goals first|exact hx.elim|exact⟨⟨none,.jk,_,rfl⟩,hx⟩
  ·exact hx.elim
 ·split at hx
  ·obtain⟨z,hx⟩:=hx;exact⟨z,hF,hx⟩
  ·exact hx.elim
 ·cases dst with
  | none =>
   unfold Q0 at hx ⊢
   repeat' split at hx
   all_goals first|exact hx.elim|skip
   ·obtain⟨h1,z,h2⟩:=hx;exact⟨h1,z,hF,h2⟩
   ·obtain⟨h1,h2⟩:=hx;exact⟨h1,⟨some _,.jk,_,rfl⟩,h2⟩
  | some d =>
   obtain⟨kk,o',k',h1,h2⟩:=b14 hx;exact h2 s.t _ ⟨⟨kk,_,o',rfl⟩,h1⟩
 ·exact calm hx
 ·exact calm hx
 ·exact calm hx
 ·exact calm hx
theorem a1p {s:S} {dst:Option Nat} {K K':S->Prop} {op:Op} (hK:∀s,K s->K' s) (hx:H6 j5 false s dst K op):H6 j5 false s dst K' op:=by
 have calm:∀ {op:Op},K4 j5 s.get s.o (λv=>K (s.put dst v)) op->K4 j5 s.get s.o (λv=>K' (s.put dst v)) op:=λh=>by
  obtain⟨v,h1,h2⟩:=a3u _ h;exact h2 _ (hK _ h1)
 unfold H6 at hx ⊢
 split at hx
 ·split at hx
  ·exact hK _ hx
  ·exact hx.elim
 ·split at hx
  ·exact hK _ hx
  ·exact hx.elim
 ·split at hx
  ·obtain⟨o',h1,h2⟩:=a70 hx;exact h2 _ _ (hK _ h1)
  ·exact hx.elim
 ·unfold a4q at hx ⊢
  repeat' split at hx
  all_goals first|exact hx.elim|skip
  obtain⟨h1,z,h2⟩:=hx;exact⟨h1,z,hK _ h2⟩
 ·split at hx
  ·split at hx
   ·exact hK _ hx
   ·exact hx.elim
  ·exact hx.elim
 ·split at hx
  ·unfold c0U at hx ⊢
   repeat' split at hx
   all_goals first|exact hx.elim|exact hK _ hx
  ·exact hx.elim
 ·split at hx
  ·obtain⟨z,hx⟩:=hx;exact⟨z,hK _ hx⟩
  ·exact hx.elim
 ·unfold Q0 at hx ⊢
  repeat' split at hx
  all_goals first|exact hx.elim|skip
  ·obtain⟨h1,z,h2⟩:=hx;exact⟨h1,z,hK _ h2⟩
  ·obtain⟨h1,h2⟩:=hx;exact⟨h1,hK _ h2⟩
 ·exact calm hx
 ·exact calm hx
 ·exact calm hx
 ·exact calm hx
theorem b5X {dsts:List (Option Nat)} {prs:List (Nat×Nat)} {o:Oper} {s:S} {K:S->Prop} (hP:PP prs s) (hf:c1J prs o.dst) (h:s8 j5 dsts o s K):s8 j5 dsts o s (λs'=>PP prs s'/\K s'):=by
 obtain⟨dst,op,type,pos,after,gd⟩:=o
 have hst:∀ {K:S->Prop},H6 j5 false s dst K op->H6 j5 false s dst (λs'=>PP prs s'/\K s') op:=λ{K} h=>by
  have h1:=a9H h;exact a1p (λs' ⟨⟨kk,v,o',e⟩,hk⟩=>⟨by rw[e];exact hP.next hf,hk⟩) h1
 cases gd with
 | none=>exact hst h
 | some jb =>
  obtain⟨j,b⟩:=jb
  have h':guard s dsts j (fun
   | some c=>match bEq c b with
    | true=>H6 j5 false s dst K op
    | false=>K (s.put dst vun)
   | none=>K (s.put dst vun)):=h
  obtain⟨c,h1,h2⟩:=a2n h';have hv:PP prs (s.put dst vun):=hP.next (kk:=none) (o':=s.o) hf
  show guard s dsts j (fun
   | some c=>match bEq c b with
    | true=>H6 j5 false s dst (λs'=>PP prs s'/\K s') op
    | false=>PP prs (s.put dst vun)/\K (s.put dst vun)
   | none=>PP prs (s.put dst vun)/\K (s.put dst vun))
  refine h2 _ ?_;cases c with
  | none=>exact⟨hv,h1⟩
  | some c =>
   simp only at h1 ⊢;cases hb:bEq c b with
   | true=>rw[hb] at h1;exact hst h1
   | false=>rw[hb] at h1;exact⟨hv,h1⟩
def a9I (prs:List (Nat×Nat)) (o:Oper):Prop:=∀p∈prs,o.dst≠some p.2/\(o.dst=some p.1->∃j,a0n o.op=some j/\(j,p.2)∈prs)
theorem c1K {prs:List (Nat×Nat)} {o:Oper} (h:b7s prs o=true):a9I prs o:=λp hp=>by
 unfold b7s at h;cases hd:o.dst with
 | none=>exact⟨by simp,λe=>by cases e⟩
 | some d =>
  rw[hd] at h;have h1:=d4f.1 h p hp;rw[d3N,d41,a3K,a3K] at h1;refine⟨λe=>?_,λe=>?_⟩
  ·have e:=Option.some.inj e;rw[H0.2 e] at h1;exact absurd h1.1 (by simp)
  ·have e:=Option.some.inj e
   rcases h1.2 with h2|h2
   ·rw[H0.2 e] at h2;exact absurd h2 (by simp)
   ·split at h2
    ·rename_i j hj;exact⟨j,hj,by simpa using h2⟩
    ·cases h2
theorem b9n {s:S} {dst:Option Nat} {K:S->Prop} {op:Op} {j:Nat} (ha:a0n op=some j) (h:H6 j5 false s dst K op):∃v,K (s.put dst v)/\(∀u,L7 (y8 s.t j) u=true->L7 v u=true)/\∀K':S->Prop,K' (s.put dst v)->H6 j5 false s dst K' op:=by
 have hc:a61 op=true:=by
  unfold a0n at ha
  split at ha <;> first|rfl|cases ha
 rw[L4 hc] at h;have hs:∀ {K':S->Prop} {v:V},K4 j5 s.get s.o (λv=>K' (s.put dst v)) op->H6 j5 false s dst K' op:=λ{K' v} hk=>by rw[L4 hc];exact hk
 unfold a0n at ha
 split at ha <;> try cases ha
 ·have h:K (s.put dst (y8 s.t j)):=h;exact⟨_,h,λu hu=>hu,λK' hk=>hs (v:=.jk) (show K' (s.put dst (y8 s.t j)) from hk)⟩
 ·have h:nnV (λv=>K (s.put dst v)) (y8 s.t j):=h;refine⟨y8 s.t j,?_,λu hu=>hu,λK' hk=>hs (v:=.jk) ?_⟩
  ·revert h;cases y8 s.t j <;> intro h <;> first|exact h|exact h.elim
  ·show nnV (λv=>K' (s.put dst v)) (y8 s.t j);revert h hk;cases y8 s.t j <;> intro h hk <;> first|exact hk|exact h.elim
 ·rename_i _ t i;have h:a0s (λv=>K (s.put dst v)) t i (y8 s.t j):=h
  have key:∃v,K (s.put dst v)/\(∀u,L7 (y8 s.t j) u=true->L7 v u=true)/\∀K':S->Prop,K' (s.put dst v)->a0s (λv=>K' (s.put dst v)) t i (y8 s.t j):=by
   generalize y8 s.t j=x at *;simp only[a0s] at h ⊢
   split at h <;> try exact h.elim
   rename_i hf;cases x <;> try exact h.elim
   ·exact⟨_,h,λu hu=>by cases u <;> first|rfl|exact hu,λK' hk=>hk⟩
   ·exact⟨_,h,λu hu=>by cases u <;> first|rfl|exact hu,λK' hk=>hk⟩
   ·exact⟨_,h,λu hu=>by cases u <;> first|rfl|exact hu,λK' hk=>hk⟩
  obtain⟨v,h1,h2,h3⟩:=key;exact⟨v,h1,h2,λK' hk=>hs (v:=.jk) (h3 K' hk)⟩
 ·rename_i _ t i;have h:E1 j5 s.o (λv=>K (s.put dst v)) t (y8 s.t j) (s.get i):=h
  have key:∃v,K (s.put dst v)/\(∀u,L7 (y8 s.t j) u=true->L7 v u=true)/\∀K':S->Prop,K' (s.put dst v)->E1 j5 s.o (λv=>K' (s.put dst v)) t (y8 s.t j) (s.get i):=by
   generalize y8 s.t j=x at *;generalize s.get i=y at *;simp only[E1] at h ⊢
   split at h <;> try exact h.elim
   split at h
   ·split at h <;> try exact h.elim
    split at h <;> try exact h.elim
    cases x <;> try exact h.elim
    ·exact⟨_,h,λu hu=>by cases u <;> first|rfl|exact hu,λK' hk=>by first|(simp only[*,a0S];done)|(simp only[*,a0S];exact hk)⟩
    ·exact⟨_,h,λu hu=>by cases u <;> first|rfl|exact hu,λK' hk=>by first|(simp only[*,a0S];done)|(simp only[*,a0S];exact hk)⟩
    ·exact⟨_,h,λu hu=>by cases u <;> first|rfl|exact hu,λK' hk=>by first|(simp only[*,a0S];done)|(simp only[*,a0S];exact hk)⟩
   ·split at h <;> try exact h.elim
    rename_i e he
    split at h
    ·rename_i k m hb
     split at h <;> try exact h.elim
     rename_i j' hj
     obtain⟨k',n',rfl⟩:∃k' n',x=.bs k' n':=by
      cases x <;> first|exact⟨_,_,rfl⟩|cases hb
     cases hb;exact⟨_,h,λu hu=>by cases u <;> first|rfl|exact hu,λK' hk=>by first|(simp only[*,bsV];done)|(simp only[*,bsV];exact hk)⟩
    ·rename_i hb
     split at h
     ·rename_i k e' rows hr
      split at h <;> try exact h.elim
      rename_i he'
      split at h <;> try exact h.elim
      rename_i row hrow
      obtain rfl:x=.own k:=by
       unfold a80 at hr
       split at hr
       ·split at hr
        ·cases hr;rfl
        ·cases hr
       ·cases hr
      exact⟨_,h,λu hu=>by cases u <;> first|rfl|exact hu,λK' hk=>by first|(simp only[*];done)|(simp only[*];exact hk)⟩
     ·rename_i hr
      split at h <;> try exact h.elim
      rename_i sz rows hrw
      split at h <;> try exact h.elim
      rename_i hsz
      split at h <;> try exact h.elim
      rename_i row hrow;exact⟨_,h,λu hu=>rfl,λK' hk=>by first|(simp only[*];done)|(simp only[*];exact hk)⟩
  obtain⟨v,h1,h2,h3⟩:=key;exact⟨v,h1,h2,λK' hk=>hs (v:=.jk) (h3 K' hk)⟩
theorem a2Z {v:V}:∀ {l:List V} {i:Nat},y8 (H5 l i v) i=v\/y8 (H5 l i v) i=.jk
 | [],i=>.inr rfl
 | x::l,0=>.inl rfl
 | x::l,i+1=>by rw[H5,y8];exact a2Z
theorem PP.chain {prs:List (Nat×Nat)} {s:S} (h:PP prs s) {d:Option Nat} {v:V} (hv:∀p∈prs,d≠some p.2/\(d=some p.1->L7 v (y8 s.t p.2)=true)):PP prs (s.put d v):=λp hp=>by
 have key:∀i,d≠some i->y8 (s.put d v).t i=y8 s.t i:=λi hi=>by
  cases d with
  | none=>rfl
  | some x =>
   show y8 (H5 s.t x v) i=_;rw[a3v (λe=>hi (by rw[e]))]
 obtain⟨h1,h2⟩:=hv p hp;rw[key _ h1]
 by_cases e:d=some p.1
 ·have h3:=h2 e;subst e;show L7 (y8 (H5 s.t p.1 v) p.1) _=true
  rcases a2Z (v:=v) (l:=s.t) (i:=p.1) with h4|h4
  ·rw[h4];exact h3
  ·rw[h4];exact b1A _
 ·rw[key _ e];exact h p hp
theorem a68 {prs:List (Nat×Nat)} {o:Oper} (h:a9I prs o) (hn:a0n o.op=none):c1J prs o.dst:=λp hp=>by
 obtain⟨h1,h2⟩:=h p hp;refine⟨λe=>?_,h1⟩;obtain⟨j,hj,_⟩:=h2 e;rw[hn] at hj;cases hj
theorem b9o {prs:List (Nat×Nat)} {s:S} {dst:Option Nat} {K:S->Prop} {op:Op} {j:Nat} (ha:a0n op=some j) (hP:PP prs s) (hk:∀p∈prs,dst≠some p.2/\(dst=some p.1->∃j,a0n op=some j/\(j,p.2)∈prs)) (h:H6 j5 false s dst K op):H6 j5 false s dst (λs'=>PP prs s'/\K s') op:=by
 obtain⟨v,h1,h2,h3⟩:=b9n ha h;refine h3 _ ⟨hP.chain λp hp=>⟨(hk p hp).1,λe=>?_⟩,h1⟩;obtain⟨j',hj,hm⟩:=(hk p hp).2 e;rw[ha] at hj;cases hj;exact h2 _ (hP _ hm)
theorem c1L {prs:List (Nat×Nat)} {s:S} {dst:Option Nat} {op:Op} (hP:PP prs s) (hk:∀p∈prs,dst≠some p.2/\(dst=some p.1->∃j,a0n op=some j/\(j,p.2)∈prs)):PP prs (s.put dst vun):=hP.chain λp hp=>⟨(hk p hp).1,λ_=>rfl⟩
theorem a43 {dsts:List (Option Nat)} {prs:List (Nat×Nat)} {o:Oper} {s:S} {K:S->Prop} (hP:PP prs s) (hk:a9I prs o) (h:s8 j5 dsts o s K):s8 j5 dsts o s (λs'=>PP prs s'/\K s'):=by
 cases ha:a0n o.op with
 | none=>exact b5X hP (a68 hk ha) h
 | some j =>
  obtain⟨dst,op,type,pos,after,gd⟩:=o;simp only at ha;have hst:∀ {K:S->Prop},H6 j5 false s dst K op->H6 j5 false s dst (λs'=>PP prs s'/\K s') op:=λ{K} h=>b9o ha hP hk h
  cases gd with
  | none=>exact hst h
  | some jb =>
   obtain⟨j,b⟩:=jb
   have h':guard s dsts j (fun
    | some c=>match bEq c b with
     | true=>H6 j5 false s dst K op
     | false=>K (s.put dst vun)
    | none=>K (s.put dst vun)):=h
   obtain⟨c,h1,h2⟩:=a2n h';have hv:PP prs (s.put dst vun):=c1L (op:=op) hP hk
   show guard s dsts j (fun
    | some c=>match bEq c b with
     | true=>H6 j5 false s dst (λs'=>PP prs s'/\K s') op
     | false=>PP prs (s.put dst vun)/\K (s.put dst vun)
    | none=>PP prs (s.put dst vun)/\K (s.put dst vun))
   refine h2 _ ?_;cases c with
   | none=>exact⟨hv,h1⟩
   | some c =>
    simp only at h1 ⊢;cases hb:bEq c b with
    | true=>rw[hb] at h1;exact hst h1
    | false=>rw[hb] at h1;exact⟨hv,h1⟩
def a73 (dsts:List (Option Nat)) (prs:List (Nat×Nat)) (x y:Oper):Bool:=match b2J x,a93 dsts y with
 | some i,some k=>prs.contains (i,k) && U4 x.dst (B7 dsts y)
 | _,_=>false
theorem b1B {x:Oper} {i:Nat} (h:b2J x=some i):∃d t ty p a,x=⟨d,.load t (.tmp i),ty,p,a,none⟩:=by
 unfold b2J at h
 split at h
 ·have h:=Option.some.inj h;subst h;exact⟨_,_,_,_,_,rfl⟩
 ·cases h
theorem a4Y {dsts:List (Option Nat)} {y:Oper} {k:Nat} (h:a93 dsts y=some k):∃t z ty p a,y=⟨none,.store t (.tmp k) z,ty,p,a,none⟩:=by
 unfold a93 at h
 split at h
 ·split at h
  ·cases h
  ·have h:=Option.some.inj h;subst h;exact⟨_,_,_,_,_,rfl⟩
 ·cases h
theorem a44 {o:O}:∀ {l:List O} {m j:Nat},j≠m->C1 (K8 l m o) j=C1 l j
 | [],m,j,_=>rfl
 | x::l,0,0,h=>absurd rfl h
 | x::l,0,j+1,_=>rfl
 | x::l,m+1,0,_=>rfl
 | x::l,m+1,j+1,h=>by rw[K8,C1,C1,a44 (λe=>h (by rw[e]))]
theorem a12 {o:O}:∀ {l:List O} {m:Nat},C1 l m≠.dead->C1 (K8 l m o) m=o
 | [],m,h=>absurd rfl h
 | x::l,0,_=>rfl
 | x::l,m+1,h=>by rw[K8,C1];rw[C1] at h;exact a12 h
theorem a2I {s:S} {K:S->Prop} {t:Nat} {y x:V} (h:T0 j5 s K t y x):∃m b,((∃off cs cs',x=.ptr m off/\C1 s.o m=.box cs/\b=.box cs')\/(∃i z off e rows rows',x=.el m i z off/\C1 s.o m=.row false e rows/\b=.row false e rows'))/\K ⟨s.t,K8 s.o m b⟩/\∀(t':List V) (K':S->Prop),K' ⟨t',K8 s.o m b⟩->T0 j5 ⟨t',s.o⟩ K' t y x:=by
 unfold T0 at h
 split at h <;> try exact h.elim
 ·rename_i k off
  split at h <;> try exact h.elim
  rename_i cs hok
  split at h <;> try exact h.elim
  rename_i l hl
  split at h <;> try exact h.elim
  rename_i hsz
  split at h <;> try exact h.elim
  rename_i cs' hcs;refine⟨k,_,.inl ⟨off,cs,cs',rfl,hok,rfl⟩,h,λt' K' hk=>?_⟩;unfold T0;simp only[hok,hl,hsz,hcs];exact hk
 ·rename_i k i sz off
  split at h <;> try exact h.elim
  rename_i e rows hok
  split at h <;> try exact h.elim
  rename_i hsz
  split at h <;> try exact h.elim
  rename_i row hrow
  split at h <;> try exact h.elim
  rename_i l hl
  split at h <;> try exact h.elim
  rename_i ds hds
  split at h <;> try exact h.elim
  rename_i hlen
  split at h <;> try exact h.elim
  rename_i row' hrow';refine⟨k,_,.inr ⟨i,sz,off,e,rows,_,rfl,hok,rfl⟩,h,λt' K' hk=>?_⟩;unfold T0;simp only[hok,hsz,hrow,hl,hds,hlen,hrow'];exact hk
theorem a9J {os os':List O} {K:V->Prop} {t:Nat} {x:V} (hx:∀j,((∃o,x=.ptr j o)\/∃i z o,x=.el j i z o)->C1 os' j=C1 os j):L5 j5 os K t x=L5 j5 os' K t x:=by
 cases x <;> try rfl
 case ptr k off=>simp only[L5,hx k (.inl ⟨off,rfl⟩)]
 case el k i z off=>simp only[L5,hx k (.inr ⟨i,z,off,rfl⟩)]
theorem b1C {os:List O} {K:V->Prop} {t:Nat} {x:V} (h:L5 j5 os K t x):(∀j o,x=.ptr j o->∃cs,C1 os j=.box cs)/\∀j i z o,x=.el j i z o->∃zz e rows,C1 os j=.row zz e rows:=by
 refine⟨λj o e=>?_,λj i z o e=>?_⟩
 ·subst e;simp only[L5] at h
  split at h <;> first|exact⟨_,by assumption⟩|exact h.elim
 ·subst e;simp only[L5] at h
  split at h <;> first|exact⟨_,_,_,by assumption⟩|exact h.elim
theorem d0L {dsts:List (Option Nat)} {prs:List (Nat×Nat)} {x y:Oper} (h:a73 dsts prs x y=true) {s:S} (hP:PP prs s) {K:S->Prop} (hx:s8 j5 dsts x s λs=>s8 j5 dsts y s K):s8 j5 dsts y s λs=>s8 j5 dsts x s K:=by
 unfold a73 at h
 split at h <;> try cases h
 rename_i i k hi hk;obtain⟨d,t,ty1,p1,a1,rfl⟩:=b1B hi;obtain⟨t2,z,ty2,p2,a2,rfl⟩:=a4Y hk;simp only[d3N,d4O] at h;have hd:=hP _ h.1;have hx':L5 j5 s.o (λv=>s8 j5 dsts ⟨none,.store t2 (.tmp k) z,ty2,p2,a2,none⟩ (s.put d v) K) t (y8 s.t i):=hx;have hlive:=b1C hx';obtain⟨v,h1,h2⟩:=a8H _ hx';have hs:a3x (B7 dsts ⟨none,.store t2 (.tmp k) z,ty2,p2,a2,none⟩) s (s.put d v):=T1 (P1 h.2);have hops:=hs.ops (xs:=[.tmp k,z]) λt ht=>by simp[B7,Op.operands];simpa using ht
 have h3:T0 j5 (s.put d v) K t2 ((s.put d v).get z) ((s.put d v).get (.tmp k)):=h1;rw[hops z (by simp),hops (.tmp k) (by simp)] at h3;obtain⟨m,b,hsh,h4,h5⟩:=a2I h3;rw[a5z] at h4 h5 hsh;have e0:s=⟨s.t,s.o⟩:=rfl;show T0 j5 s (λs=>s8 j5 dsts ⟨d,.load t (.tmp i),ty1,p1,a1,none⟩ s K) t2 (s.get z) (s.get (.tmp k));rw[e0];have h5:=h5 s.t (λs=>s8 j5 dsts ⟨d,.load t (.tmp i),ty1,p1,a1,none⟩ s K) ?_
 ·have e1:(⟨s.t,(s.put d v).o⟩:S)=s:=by rw[a5z]
  exact e1 ▸ h5
 show L5 j5 (K8 s.o m b) (λv=>K (S.put ⟨s.t,K8 s.o m b⟩ d v)) t (y8 s.t i);rw[<-a9J (os:=s.o) (λj hj=>?_)]
 ·refine h2 _ ?_;rw[<-a11 s.t s.o];exact h4
 ·refine a44 λe=>?_
  subst e;have hd':L7 (y8 s.t i) (s.get (.tmp k))=true:=hd
  rcases hsh with⟨off,cs,cs',hy,ho,_⟩|⟨i',z',off,e,rows,rows',hy,ho,_⟩
  ·rw[hy] at hd'
   rcases hj with⟨o,hj⟩|⟨i2,z2,o,hj⟩
   ·rw[hj] at hd';simp only[L7] at hd';rw[H0.2 rfl] at hd';cases hd'
   ·obtain⟨zz,e',rows,he⟩:=hlive.2 _ _ _ _ hj;rw[ho] at he;cases he
  ·rw[hy] at hd'
   rcases hj with⟨o,hj⟩|⟨i2,z2,o,hj⟩
   ·obtain⟨cs,he⟩:=hlive.1 _ _ hj;rw[ho] at he;cases he
   ·rw[hj] at hd';simp only[L7] at hd';rw[H0.2 rfl] at hd';cases hd'
theorem d0M {dsts:List (Option Nat)} {prs:List (Nat×Nat)} {x y:Oper} (h:a73 dsts prs x y=true) {s:S} (hP:PP prs s) {K:S->Prop} (hy:s8 j5 dsts y s λs=>s8 j5 dsts x s K):s8 j5 dsts x s λs=>s8 j5 dsts y s K:=by
 unfold a73 at h
 split at h <;> try cases h
 rename_i i k hi hk;obtain⟨d,t,ty1,p1,a1,rfl⟩:=b1B hi;obtain⟨t2,z,ty2,p2,a2,rfl⟩:=a4Y hk;simp only[d3N,d4O] at h;have hd:L7 (y8 s.t i) (s.get (.tmp k))=true:=hP _ h.1;have hy':T0 j5 s (λs=>s8 j5 dsts ⟨d,.load t (.tmp i),ty1,p1,a1,none⟩ s K) t2 (s.get z) (s.get (.tmp k)):=hy;obtain⟨m,b,hsh,h4,h5⟩:=a2I hy';have h4:L5 j5 (K8 s.o m b) (λv=>K (S.put ⟨s.t,K8 s.o m b⟩ d v)) t (y8 s.t i):=h4;have hlive:=b1C h4;rw[<-a9J (os:=s.o) (λj hj=>?_)] at h4
 ·obtain⟨v,h6,h7⟩:=a8H _ h4;show L5 j5 s.o (λv=>s8 j5 dsts ⟨none,.store t2 (.tmp k) z,ty2,p2,a2,none⟩ (s.put d v) K) t (y8 s.t i);refine h7 _ ?_;have hs:a3x (B7 dsts ⟨none,.store t2 (.tmp k) z,ty2,p2,a2,none⟩) s (s.put d v):=T1 (P1 h.2);have hops:=hs.ops (xs:=[.tmp k,z]) λt ht=>by simp[B7,Op.operands];simpa using ht
  show T0 j5 (s.put d v) K t2 ((s.put d v).get z) ((s.put d v).get (.tmp k));rw[hops z (by simp),hops (.tmp k) (by simp)];have e1:s.put d v=⟨(s.put d v).t,s.o⟩:=by cases d <;> rfl
  rw[e1];refine h5 _ _ ?_;rw[<-a11 s.t s.o] at h6;exact h6
 ·refine a44 λe=>?_
  subst e
  rcases hsh with⟨off,cs,cs',hy,ho,hb⟩|⟨i',z',off,e,rows,rows',hy,ho,hb⟩
  ·rw[hy] at hd
   rcases hj with⟨o,hj⟩|⟨i2,z2,o,hj⟩
   ·rw[hj] at hd;simp only[L7] at hd;rw[H0.2 rfl] at hd;cases hd
   ·obtain⟨zz,e',rows,he⟩:=hlive.2 _ _ _ _ hj;rw[a12 (by rw[ho];simp),hb] at he;cases he
  ·rw[hy] at hd
   rcases hj with⟨o,hj⟩|⟨i2,z2,o,hj⟩
   ·obtain⟨cs,he⟩:=hlive.1 _ _ hj;rw[a12 (by rw[ho];simp),hb] at he;cases he
   ·rw[hj] at hd;simp only[L7] at hd;rw[H0.2 rfl] at hd;cases hd
def b5Y:Oper->Option Nat
 | ⟨_,.indexAddr _ (.tmp i) _,_,_,_,none⟩=>some i
 | _=>none
theorem b1D {x:Oper} {i:Nat} (h:b5Y x=some i):∃d t y ty p a,x=⟨d,.indexAddr t (.tmp i) y,ty,p,a,none⟩:=by
 unfold b5Y at h
 split at h
 ·have h:=Option.some.inj h;subst h;exact⟨_,_,_,_,_,_,rfl⟩
 ·cases h
def a74 (dsts:List (Option Nat)) (prs:List (Nat×Nat)) (x y:Oper):Bool:=match b5Y x,a93 dsts y with
 | some i,some k=>prs.contains (i,k) && U4 x.dst (B7 dsts y)
 | _,_=>false
theorem c1M {os os':List O} {K:V->Prop} {t:Nat} {x y:V} (hx:∀j,x=.own j->C1 os' j=C1 os j):E1 j5 os K t x y=E1 j5 os' K t x y:=by
 have e1:a80 os' x=a80 os x:=by cases x <;> first|rfl|simp only[a80,hx _ rfl]
 have e2:W8 os' x=W8 os x:=by cases x with|d x=>cases x <;> rfl|own j=>simp only[W8,hx j rfl]|_=>rfl
 unfold E1;rw[e1,e2]
theorem b70 {os:List O} {K:V->Prop} {t:Nat} {x y:V} (h:E1 j5 os K t x y):∀j,x=.own j->∃zz e rows,C1 os j=.row zz e rows:=by
 intro j e;subst e;cases ho:C1 os j with
 | row z e rows=>exact⟨_,_,_,rfl⟩
 | _ =>
  exfalso;simp only[E1,a0S,bsV,a80,W8,ho] at h
  repeat' split at h
  all_goals first|exact h|skip
theorem d0N {dsts:List (Option Nat)} {prs:List (Nat×Nat)} {x y:Oper} (h:a74 dsts prs x y=true) {s:S} (hP:PP prs s) {K:S->Prop} (hx:s8 j5 dsts x s λs=>s8 j5 dsts y s K):s8 j5 dsts y s λs=>s8 j5 dsts x s K:=by
 unfold a74 at h
 split at h <;> try cases h
 rename_i i k hi hk;obtain⟨d,t,zi,ty1,p1,a1,rfl⟩:=b1D hi;obtain⟨t2,z,ty2,p2,a2,rfl⟩:=a4Y hk;simp only[d3N,d4O] at h;have hd:=hP _ h.1;have hx':E1 j5 s.o (λv=>s8 j5 dsts ⟨none,.store t2 (.tmp k) z,ty2,p2,a2,none⟩ (s.put d v) K) t (y8 s.t i) (s.get zi):=hx;have hlive:=b70 hx';obtain⟨v,h1,h2⟩:=a97 _ hx';have hs:a3x (B7 dsts ⟨none,.store t2 (.tmp k) z,ty2,p2,a2,none⟩) s (s.put d v):=T1 (P1 h.2);have hops:=hs.ops (xs:=[.tmp k,z]) λt ht=>by simp[B7,Op.operands];simpa using ht
 have h3:T0 j5 (s.put d v) K t2 ((s.put d v).get z) ((s.put d v).get (.tmp k)):=h1;rw[hops z (by simp),hops (.tmp k) (by simp)] at h3;obtain⟨m,b,hsh,h4,h5⟩:=a2I h3;rw[a5z] at h4 h5 hsh;have e0:s=⟨s.t,s.o⟩:=rfl;show T0 j5 s (λs=>s8 j5 dsts ⟨d,.indexAddr t (.tmp i) zi,ty1,p1,a1,none⟩ s K) t2 (s.get z) (s.get (.tmp k));rw[e0];have h5:=h5 s.t (λs=>s8 j5 dsts ⟨d,.indexAddr t (.tmp i) zi,ty1,p1,a1,none⟩ s K) ?_
 ·have e1:(⟨s.t,(s.put d v).o⟩:S)=s:=by rw[a5z]
  exact e1 ▸ h5
 show E1 j5 (K8 s.o m b) (λv=>K (S.put ⟨s.t,K8 s.o m b⟩ d v)) t (y8 s.t i) (S.get ⟨s.t,K8 s.o m b⟩ zi);rw[show S.get ⟨s.t,K8 s.o m b⟩ zi=s.get zi by cases zi <;> rfl,<-c1M (os:=s.o) (λj hj=>?_)]
 ·refine h2 _ ?_;rw[<-a11 s.t s.o];exact h4
 ·refine a44 λe=>?_
  subst e;have hd':L7 (y8 s.t i) (s.get (.tmp k))=true:=hd;obtain⟨zz,e',rows,he⟩:=hlive _ hj
  rcases hsh with⟨off,cs,cs',hy,ho,_⟩|⟨i',z',off,e,rows,rows',hy,ho,_⟩
  ·rw[ho] at he;cases he
  ·rw[hy,hj] at hd';simp only[L7] at hd';rw[H0.2 rfl] at hd';cases hd'
theorem d0O {dsts:List (Option Nat)} {prs:List (Nat×Nat)} {x y:Oper} (h:a74 dsts prs x y=true) {s:S} (hP:PP prs s) {K:S->Prop} (hy:s8 j5 dsts y s λs=>s8 j5 dsts x s K):s8 j5 dsts x s λs=>s8 j5 dsts y s K:=by
 unfold a74 at h
 split at h <;> try cases h
 rename_i i k hi hk;obtain⟨d,t,zi,ty1,p1,a1,rfl⟩:=b1D hi;obtain⟨t2,z,ty2,p2,a2,rfl⟩:=a4Y hk;simp only[d3N,d4O] at h;have hd:L7 (y8 s.t i) (s.get (.tmp k))=true:=hP _ h.1;have hy':T0 j5 s (λs=>s8 j5 dsts ⟨d,.indexAddr t (.tmp i) zi,ty1,p1,a1,none⟩ s K) t2 (s.get z) (s.get (.tmp k)):=hy;obtain⟨m,b,hsh,h4,h5⟩:=a2I hy';have h4:E1 j5 (K8 s.o m b) (λv=>K (S.put ⟨s.t,K8 s.o m b⟩ d v)) t (y8 s.t i) (S.get ⟨s.t,K8 s.o m b⟩ zi):=h4;rw[show S.get ⟨s.t,K8 s.o m b⟩ zi=s.get zi by cases zi <;> rfl] at h4;have hlive:=b70 h4;rw[<-c1M (os:=s.o) (λj hj=>?_)] at h4
 ·obtain⟨v,h6,h7⟩:=a97 _ h4;show E1 j5 s.o (λv=>s8 j5 dsts ⟨none,.store t2 (.tmp k) z,ty2,p2,a2,none⟩ (s.put d v) K) t (y8 s.t i) (s.get zi);refine h7 _ ?_;have hs:a3x (B7 dsts ⟨none,.store t2 (.tmp k) z,ty2,p2,a2,none⟩) s (s.put d v):=T1 (P1 h.2);have hops:=hs.ops (xs:=[.tmp k,z]) λt ht=>by simp[B7,Op.operands];simpa using ht
  show T0 j5 (s.put d v) K t2 ((s.put d v).get z) ((s.put d v).get (.tmp k));rw[hops z (by simp),hops (.tmp k) (by simp)];have e1:s.put d v=⟨(s.put d v).t,s.o⟩:=by cases d <;> rfl
  rw[e1];refine h5 _ _ ?_;rw[<-a11 s.t s.o] at h6;exact h6
 ·refine a44 λe=>?_
  subst e;obtain⟨zz,e',rows,he⟩:=hlive _ hj
  rcases hsh with⟨off,cs,cs',hy,ho,hb⟩|⟨i',z',off,e,rows,rows',hy,ho,hb⟩
  ·rw[a12 (by rw[ho];simp),hb] at he;cases he
  ·rw[hy,hj] at hd;simp only[L7] at hd;rw[H0.2 rfl] at hd;cases hd
def a5M (dsts:List (Option Nat)) (prs:List (Nat×Nat)) (x y:Oper):Bool:=c1G dsts x y || a73 dsts prs x y || a73 dsts prs y x || a74 dsts prs x y || a74 dsts prs y x
theorem c72 {dsts:List (Option Nat)} {prs:List (Nat×Nat)} {x y:Oper} (h:a5M dsts prs x y=true) {s:S} (hP:PP prs s) {K:S->Prop} (hx:s8 j5 dsts x s λs=>s8 j5 dsts y s K):s8 j5 dsts y s λs=>s8 j5 dsts x s K:=by
 simp only[a5M,d41] at h
 rcases h with (((h|h)|h)|h)|h
 ·exact d0K h hx
 ·exact d0L h hP hx
 ·exact d0M h hP hx
 ·exact d0N h hP hx
 ·exact d0O h hP hx
theorem a0K {dsts:List (Option Nat)} {o:Oper} {s:S} {K K':S->Prop} (hK:∀s,K s->K' s) (h:s8 j5 dsts o s K):s8 j5 dsts o s K':=by
 obtain⟨dst,op,type,pos,after,gd⟩:=o;cases gd with
 | none=>exact a1p hK h
 | some jb =>
  obtain⟨j,b⟩:=jb
  have h':guard s dsts j (fun
   | some c=>match bEq c b with
    | true=>H6 j5 false s dst K op
    | false=>K (s.put dst vun)
   | none=>K (s.put dst vun)):=h
  obtain⟨c,h1,h2⟩:=a2n h'
  show guard s dsts j (fun
   | some c=>match bEq c b with
    | true=>H6 j5 false s dst K' op
    | false=>K' (s.put dst vun)
   | none=>K' (s.put dst vun))
  refine h2 _ ?_;cases c with
  | none=>exact hK _ h1
  | some c =>
   simp only at h1 ⊢;cases hb:bEq c b with
   | true=>rw[hb] at h1;exact a1p hK h1
   | false=>rw[hb] at h1;exact hK _ h1
def a9K (all:List Oper) (i:Nat):Prop:=a8f all i=false/\a3N all i=none
theorem a3y {dsts:List (Option Nat)} {all:List Oper} {i:Nat} (h:a9K all i) (o:Oper) (s:S) (K:S->Prop):a0y j5 dsts all i o s K=s8 j5 dsts o s K:=by
 have hst:∀(s:S) (dst:Option Nat) (K:S->Prop) (op:Op),U5 j5 all i s dst K op=H6 j5 false s dst K op:=λs dst K op=>by
  unfold U5
  split
  ·split
   ·rw[h.1,h.2]
   ·rfl
  ·rfl
 obtain⟨dst,op,type,pos,after,gd⟩:=o;cases gd with
 | none=>exact hst s dst K op
 | some jb =>
  obtain⟨j,b⟩:=jb;unfold a0y;simp only[hst];rfl
def a1R (dsts:List (Option Nat)) (all:List Oper):List Nat->S->(S->Prop)->Prop
 | [],s,K=>K s
 | i::l,s,K=>match all[i]? with
  | some o=>a0y j5 dsts all i o s (λs=>a1R dsts all l s K)
  | none=>a1R dsts all l s K
theorem a69 {dsts:List (Option Nat)} {all:List Oper}:∀(l:List Oper) (i:Nat) (s:S) (K:S->Prop),all.drop i=l->b5O j5 dsts all i l s K->a1R dsts all (List.range' i l.length) s K
 | [],i,s,K,_,h=>h
 | o::l,i,s,K,hl,h=>by
  have hi:i<all.length:=by
   rcases d4F i all.length with h1|h1
   ·exact h1
   ·rw[d4w h1] at hl;cases hl
  rw[d4c hi] at hl;injection hl with h1 h2;rw[d3O,List.range'_succ,a1R,d3H hi,h1];simp only;rw[b5O] at h;refine execD_mono (λs hs=>?_) h;exact a69 l (i+1) s K h2 hs
where
 execD_mono {dsts:List (Option Nat)} {all:List Oper} {i:Nat} {o:Oper} {s:S} {K K':S->Prop} (hK:∀s,K s->K' s) (h:a0y j5 dsts all i o s K):a0y j5 dsts all i o s K':=by
  have hst:∀ {s:S} {dst:Option Nat} {op:Op},U5 j5 all i s dst K op->U5 j5 all i s dst K' op:=λ{s dst op} h=>by
   unfold U5 at h ⊢
   split at h
   ·split at h
    ·split at h
     ·exact Y9.mono h λv o' ks hk=>hK _ hk
     ·split at h
      ·exact a2W.mono h λv o' hk=>⟨hk.1,hK _ hk.2⟩
      ·exact a1p hK h
    ·exact a1p hK h
   ·exact a1p hK h
  obtain⟨dst,op,type,pos,after,gd⟩:=o;cases gd with
  | none=>exact hst h
  | some jb =>
   obtain⟨j,b⟩:=jb
   have h':guard s dsts j (fun
    | some c=>match bEq c b with
     | true=>U5 j5 all i s dst K op
     | false=>K (s.put dst vun)
    | none=>K (s.put dst vun)):=h
   obtain⟨c,h1,h2⟩:=a2n h'
   show guard s dsts j (fun
    | some c=>match bEq c b with
     | true=>U5 j5 all i s dst K' op
     | false=>K' (s.put dst vun)
    | none=>K' (s.put dst vun))
   refine h2 _ ?_;cases c with
   | none=>exact hK _ h1
   | some c =>
    simp only at h1 ⊢;cases hb:bEq c b with
    | true=>rw[hb] at h1;exact hst h1
    | false=>rw[hb] at h1;exact hK _ h1
theorem b9p {ks:List Nat}:∀ {t:List V} {i j:Nat},L7 (y8 t i) (y8 t j)=true->L7 (y8 (E5 ks t) i) (y8 (E5 ks t) j)=true:=by
 induction ks with
 | nil=>intro t i j h;exact h
 | cons k ks ih =>
  intro t i j h;rw[E5];refine ih ?_;rw[a2c,a2c];exact b4g (kk:=some k) h
theorem PP.called {prs:List (Nat×Nat)} {s:S} (h:PP prs s) {ks:List Nat} {d:Option Nat} {v:V} {o':List O} (hf:c1J prs d):PP prs (S.put ⟨E5 ks s.t,o'⟩ d v):=λp hp=>by
 have key:∀i,d≠some i->y8 (S.put ⟨E5 ks s.t,o'⟩ d v).t i=y8 (E5 ks s.t) i:=λi hi=>by
  cases d with
  | none=>rfl
  | some x =>
   show y8 (H5 (E5 ks s.t) x v) i=_;rw[a3v (λe=>hi (by rw[e]))]
 rw[key _ (hf p hp).1,key _ (hf p hp).2];exact b9p (h p hp)
theorem b5Z {dsts:List (Option Nat)} {prs:List (Nat×Nat)} {all:List Oper} {i:Nat} {o:Oper} {s:S} {K:S->Prop} (hP:PP prs s) (hf:c1J prs o.dst) (h:a0y j5 dsts all i o s K):a0y j5 dsts all i o s (λs'=>PP prs s'/\K s'):=by
 obtain⟨dst,op,type,pos,after,gd⟩:=o
 have hst:∀ {K:S->Prop},U5 j5 all i s dst K op->U5 j5 all i s dst (λs'=>PP prs s'/\K s') op:=λ{K} h=>by
  have h0:∀ {K:S->Prop} {op:Op},H6 j5 false s dst K op->H6 j5 false s dst (λs'=>PP prs s'/\K s') op:=λ{K op} h=>a1p (λs' ⟨⟨kk,v,o',e⟩,hk⟩=>⟨by rw[e];exact hP.next hf,hk⟩) (a9H h)
  unfold U5 at h ⊢
  split at h
  ·split at h
   ·split at h
    ·exact Y9.mono h λv o' ks hk=>⟨hP.called hf,hk⟩
    ·split at h
     ·exact a2W.mono h λv o' hk=>⟨hk.1,hP.called (ks:=[]) hf,hk.2⟩
     ·exact h0 h
   ·exact h0 h
  ·exact h0 h
 cases gd with
 | none=>exact hst h
 | some jb =>
  obtain⟨j,b⟩:=jb
  have h':guard s dsts j (fun
   | some c=>match bEq c b with
    | true=>U5 j5 all i s dst K op
    | false=>K (s.put dst vun)
   | none=>K (s.put dst vun)):=h
  obtain⟨c,h1,h2⟩:=a2n h';have hv:PP prs (s.put dst vun):=hP.next (kk:=none) (o':=s.o) hf
  show guard s dsts j (fun
   | some c=>match bEq c b with
    | true=>U5 j5 all i s dst (λs'=>PP prs s'/\K s') op
    | false=>PP prs (s.put dst vun)/\K (s.put dst vun)
   | none=>PP prs (s.put dst vun)/\K (s.put dst vun))
  refine h2 _ ?_;cases c with
  | none=>exact⟨hv,h1⟩
  | some c =>
   simp only at h1 ⊢;cases hb:bEq c b with
   | true=>rw[hb] at h1;exact hst h1
   | false=>rw[hb] at h1;exact⟨hv,h1⟩
theorem b4h {dsts:List (Option Nat)} {prs:List (Nat×Nat)} {all:List Oper} {i:Nat} {o:Oper} {s:S} {K:S->Prop} (hP:PP prs s) (hk:a9I prs o) (h:a0y j5 dsts all i o s K):a0y j5 dsts all i o s (λs'=>PP prs s'/\K s'):=by
 cases ha:a0n o.op with
 | none=>exact b5Z hP (a68 hk ha) h
 | some j =>
  have e:∀K:S->Prop,a0y j5 dsts all i o s K=s8 j5 dsts o s K:=λK=>by
   obtain⟨dst,op,type,pos,after,gd⟩:=o;simp only at ha
   have e1:∀(s:S) (K:S->Prop),U5 j5 all i s dst K op=H6 j5 false s dst K op:=λs K=>by
    unfold a0n at ha
    split at ha <;> first|rfl|cases ha
   cases gd with
   | none=>exact e1 s K
   | some jb =>
    obtain⟨j,b⟩:=jb;unfold a0y;simp only[e1];rfl
  rw[e] at h ⊢;exact a43 hP hk h
theorem a75 {dsts:List (Option Nat)} {prs:List (Nat×Nat)} {all:List Oper} {y:Nat} {oy:Oper} (hoy:all[y]?=some oy) (hty:a9K all y):∀ {pre post:List Nat} {s:S} {K:S->Prop},(∀x∈pre,a9K all x/\∀ox,all[x]?=some ox->a5M dsts prs ox oy=true/\a9I prs ox)->PP prs s->a1R dsts all (pre++y::post) s K->a1R dsts all (y::(pre++post)) s K
 | [],post,s,K,_,_,h=>h
 | x::pre,post,s,K,ha,hP,h=>by
  rw[d43,a1R] at h;obtain⟨hx,hxx⟩:=ha x (d3L ..);cases hox:all[x]? with
  | none =>
   rw[hox] at h;have h1:=a75 hoy hty (λz hz=>ha z (d3M _ hz)) hP h;rw[a1R,hoy] at h1 ⊢;simp only at h1 ⊢;refine a69.execD_mono (λs hs=>?_) h1;rw[d43,a1R,hox];exact hs
  | some ox =>
   rw[hox] at h;simp only at h;obtain⟨hap,hf⟩:=hxx ox hox;rw[a3y hx] at h
   have h2:s8 j5 dsts ox s λs=>s8 j5 dsts oy s λs=>a1R dsts all (pre++post) s K:=a0K (λs hs=>by
    have:=a75 hoy hty (λz hz=>ha z (d3M _ hz)) hs.1 hs.2;rw[a1R,hoy] at this;simp only at this;rw[a3y hty] at this
    exact this) (a43 hP hf h)
   rw[a1R,hoy];simp only;rw[a3y hty];have h3:=c72 hap hP h2;refine a0K (λs hs=>?_) h3;rw[d43,a1R,hox];simp only;rw[a3y hx];exact hs
theorem a5N {dsts:List (Option Nat)} {an:List (List Nat)} {i:Nat} {oi:Oper}:∀ {l:List Oper} {j:Nat} {r:List Nat},a08 dsts an i oi j l=some r->∀(m:Nat) (o:Oper),l[m]?=some o->j+m≠i ->
  (j+m<i->(an.getD i []).contains (j+m)=true\/((U4 o.dst (B7 dsts oi) && U4 oi.dst (B7 dsts o) && (o.dst.isNone || o.dst != oi.dst))=true/\∃ks,a2m dsts o=some ks/\∀k∈ks,k∈r))/\(i<j+m->(an.getD (j+m) []).contains i=true)
 | [],j,r,h,m,o,hm,_=>by simp at hm
 | x::l,j,r,h,m,o,hm,hne=>by
  rw[a08] at h;cases m with
  | zero =>
   simp at hm
   subst hm;rw[d4E] at hne ⊢;rw[show Nat.beq j i=false by rw[<-Bool.not_eq_true,Nat.beq_eq];exact hne] at h;simp only at h
   split at h
   ·rename_i hlt;rw[d4W] at hlt;refine⟨λ_=>?_,λh'=>by omega⟩
    split at h
    ·exact .inl (by assumption)
    ·split at h
     ·rename_i hn
      split at h
      ·rename_i ks hks
       split at h
       ·rename_i ms hms;have h:=Option.some.inj h;exact .inr ⟨hn,ks,hks,λk hk=>by rw[<-h];exact d5n _ hk⟩
       ·cases h
      ·cases h
     ·cases h
   ·rename_i hlt;have hlt:¬j<i:=λh=>by rw[<-d4W] at h;rw[h] at hlt;cases hlt
    refine⟨λh'=>absurd h' hlt,λ_=>?_⟩
    split at h
    ·assumption
    ·cases h
  | succ m =>
   have hm:l[m]?=some o:=by simpa using hm
   have e:j+(m+1)=j+1+m:=by omega
   rw[e] at hne ⊢
   have fin:∀ {r':List Nat},a08 dsts an i oi (j+1) l=some r'->(∀k∈r',k∈r)->_:=λ{r'} h' hr=>by
    obtain⟨h1,h2⟩:=a5N h' m o hm hne;exact(⟨λhl=>(h1 hl).imp id λ⟨h3,ks,h4,h5⟩=>⟨h3,ks,h4,λk hk=>hr k (h5 k hk)⟩,h2⟩:(j+1+m<i->(an.getD i []).contains (j+1+m)=true\/((U4 o.dst (B7 dsts oi) && U4 oi.dst (B7 dsts o) && (o.dst.isNone || o.dst != oi.dst))=true/\∃ks,a2m dsts o=some ks/\∀k∈ks,k∈r))/\(i<j+1+m->(an.getD (j+1+m) []).contains i=true))
   split at h
   ·exact fin h λ_ hk=>hk
   ·split at h
    ·split at h
     ·exact fin h λ_ hk=>hk
     ·split at h
      ·split at h
       ·split at h
        ·rename_i ms hms;have h:=Option.some.inj h;exact fin hms λk hk=>by rw[<-h];exact d4P _ hk
        ·cases h
       ·cases h
      ·cases h
    ·split at h
     ·exact fin h λ_ hk=>hk
     ·cases h
theorem a4Z {all:List Oper} {i:Nat} {l:List Nat} (h:a3N all i=some l):∃dst x args ts ty p a,all[i]?=some ⟨dst,.call ⟨.value x,args,ts⟩,ty,p,a,none⟩/\a08 (v6 all) (N6 all []) i ⟨dst,.call ⟨.value x,args,ts⟩,ty,p,a,none⟩ 0 all=some l:=by
 unfold a3N at h
 split at h
 ·rename_i oi hoi;have h1:=a3n hoi
  split at h
  ·rename_i hc;rw[d3N] at hc;obtain⟨dst,op,ty,p,a,g⟩:=oi;obtain⟨hc1,hc2⟩:=hc;simp only at hc1 hc2;obtain rfl:g=none:=d5L.1 hc2;unfold a8E at hc1
   split at hc1
   ·exact⟨_,_,_,_,_,_,_,h1,h⟩
   ·cases hc1
  ·cases h
 ·cases h
theorem b4i:∀ {l:List Oper} {o:Oper},o∈l->o.dst∈v6 l
 | [],o,h=>by simp at h
 | x::l,o,h=>by
  rw[v6]
  rcases d3R.1 h with rfl|h
  ·exact d3L ..
  ·exact d3M _ (b4i h)
theorem b2N:∀ {l:List (Option Nat)} {i:Nat},some i∈l->inD l i=true
 | [],i,h=>by simp at h
 | none::l,i,h=>by rw[inD];exact b2N (by simpa using h)
 | some x::l,i,h=>by
  rw[inD]
  split
  ·rfl
  ·rename_i hx
   rcases d3R.1 h with h|h
   ·have h:=Option.some.inj h;rw[H0.2 h.symm] at hx;cases hx
   ·exact b2N h
theorem a0W {dsts:List (Option Nat)} {an:List (List Nat)} {i:Nat} {oi:Oper}:∀ {l:List Oper} {j:Nat} {r:List Nat},a08 dsts an i oi j l=some r->∀k∈r,inD dsts k=false
 | [],j,r,h,k,hk=>by rw[a08] at h;have h:=Option.some.inj h;subst h;simp at hk
 | x::l,j,r,h,k,hk=>by
  rw[a08] at h
  split at h
  ·exact a0W h k hk
  ·split at h
   ·split at h
    ·exact a0W h k hk
    ·split at h
     ·split at h
      ·rename_i ks hks
       split at h
       ·rename_i ms hms;have h:=Option.some.inj h;subst h
        rcases d4s.1 hk with hk|hk
        ·unfold a2m at hks
         split at hks
         ·split at hks
          ·cases hks
          ·rename_i hin;have hks:=Option.some.inj hks;subst hks;rw[d4e.1 hk];exact hin
         ·split at hks
          ·have hks:=Option.some.inj hks;subst hks
           simp at hk
          ·cases hks
        ·exact a0W hms k hk
       ·cases h
      ·cases h
     ·cases h
   ·split at h
    ·exact a0W h k hk
    ·cases h
theorem d0P {all:List Oper} {prs:List (Nat×Nat)} {y:Nat} {oy ox:Oper} {l ks:List Nat} (hoy:all[y]?=some oy) (hty:a8f all y=false) (hby:a3N all y=some l) (hn:(U4 ox.dst (B7 (v6 all) oy) && U4 oy.dst (B7 (v6 all) ox) && (ox.dst.isNone || ox.dst != oy.dst))=true) (hk:a2m (v6 all) ox=some ks) (hkl:∀k∈ks,k∈l) (hap:a5M (v6 all) prs ox oy=true) (hxm:ox∈all)
  {s:S} (hP:PP prs s) {R:S->Prop} (h:s8 j5 (v6 all) ox s λs=>a0y j5 (v6 all) all y oy s R):a0y j5 (v6 all) all y oy s λs=>s8 j5 (v6 all) ox s R:=by
 obtain⟨dst,x,args,ts,ty,p,a,hoy',_⟩:=a4Z hby
 rw[hoy] at hoy';have hoy':=Option.some.inj hoy';subst hoy';simp only[d3N] at hn;obtain⟨⟨hn1,hn2⟩,hn3⟩:=hn
 have pt:∃v,a0y j5 (v6 all) all y ⟨dst,.call ⟨.value x,args,ts⟩,ty,p,a,none⟩ (s.put ox.dst v) R/\∀(s':S) (K':S->Prop),a9A (B7 (v6 all) ox) s s'->a3H l s.t s.o s'.o->K' (s'.put ox.dst v)->s8 j5 (v6 all) ox s' K':=by
  unfold a2m at hk
  split at hk
  ·rename_i d t k ty' p' a'
   split at hk
   ·cases hk
   have hk:=Option.some.inj hk;subst hk;obtain⟨v,h1,h2⟩:=a8H _ (show L5 j5 s.o (λv=>a0y j5 (v6 all) all y ⟨dst,.call ⟨.value x,args,ts⟩,ty,p,a,none⟩ (s.put d v) R) t (y8 s.t k) from h);refine⟨v,h1,λs' K' hs hkp hk'=>?_⟩;show L5 j5 s'.o (λv=>K' (s'.put d v)) t (y8 s'.t k);have hsl:y8 s'.t k=y8 s.t k:=hs k (by simp[B7,Op.operands,tmps]);rw[hsl,<-a9J (os:=s.o) (λj hj=>?_)]
   ·exact h2 _ hk'
   ·exact hkp k (hkl k (by simp)) j (by rcases hj with⟨o,e⟩|⟨i,z,o,e⟩ <;> rw[e] <;> rfl)
  ·split at hk
   ·rename_i hb;obtain⟨v,h1,h2⟩:=a64 hb h;exact⟨v,h1,λs' K' hs _ hk'=>h2 s' K' hs hk'⟩
   ·cases hk
 obtain⟨v,h1,h2⟩:=pt;have hsT:a9A (B7 (v6 all) ⟨dst,.call ⟨.value x,args,ts⟩,ty,p,a,none⟩) s (s.put ox.dst v):=a2d hn1
 have hops:∀z∈(Op.call ⟨.value x,args,ts⟩).operands.toList,(s.put ox.dst v).get z=s.get z:=λz hz=>by
  cases z with
  | tmp i =>
   show y8 (s.put ox.dst v).t i=y8 s.t i;exact hsT i (by unfold B7;exact d4P _ (a62 hz))
  | _=>rfl
 have hget:(s.put ox.dst v).get x=s.get x:=hops x (by simp[Op.operands,Call.operands])
 have hgets:∀l:List Operand,(∀z∈l,z∈(Op.call ⟨.value x,args,ts⟩).operands.toList)->N3 (s.put ox.dst v).get l=N3 s.get l:=by
  intro l
  induction l with
  | nil=>intro _;rfl
  | cons z l ih=>intro hz;rw[N3,N3,hops z (hz z (d3L ..)),ih λz' h'=>hz z' (d3M _ h')]
 have hargs:N3 (s.put ox.dst v).get args.toList=N3 s.get args.toList:=hgets _ λz hz=>by
  have hz:z∈args:=by simpa using hz
  simp[Op.operands,Call.operands,hz]
 have ho:(s.put ox.dst v).o=s.o:=a5z ..
 have hturn:a4g (a8g all y) (s.put ox.dst v) x args.toList=a4g (a8g all y) s x args.toList:=by
  unfold a4g;rw[hget,hargs,ho]
 have e0:∀(s:S) (R:S->Prop),a0y j5 (v6 all) all y ⟨dst,.call ⟨.value x,args,ts⟩,ty,p,a,none⟩ s R=match a4g (a8g all y) s x args.toList with
   | some (f,vs)=>j5.callx f vs l s (λv s'=>R (s'.put dst v))
   | none=>s8 j5 (v6 all) ⟨dst,.call ⟨.value x,args,ts⟩,ty,p,a,none⟩ s R:=λs R=>by
  show U5 j5 all y s dst R (.call ⟨.value x,args,ts⟩)=_;rw[U5];cases a4g (a8g all y) s x args.toList with
  | none=>rfl
  | some fv=>obtain⟨f,vs⟩:=fv;simp only[hty,hby]
 rw[e0] at h1 ⊢;rw[hturn] at h1;cases hT:a4g (a8g all y) s x args.toList with
 | none =>
  rw[hT] at h1;simp only at h1 ⊢;refine c72 hap hP ?_;exact h2 s (λs=>s8 j5 (v6 all) ⟨dst,.call ⟨.value x,args,ts⟩,ty,p,a,none⟩ s R) (λ_ _=>rfl) (λ_ _ _ _=>rfl) h1
 | some fv =>
  obtain⟨f,vs⟩:=fv;rw[hT] at h1;simp only at h1 ⊢;have h1:a2W f vs (s.put ox.dst v).o λu o'=>a3H l (s.put ox.dst v).t (s.put ox.dst v).o o'/\R (S.put ⟨(s.put ox.dst v).t,o'⟩ dst u):=h1
  rw[ho] at h1;refine a2W.mono h1 λu o' ⟨hkp,hR⟩=>?_
  have hkp':a3H l s.t s.o o':=λi hi k hik=>by
   by_cases hd:ox.dst=some i
   ·-- a loaded variable's slot is not filled here
    exfalso
    obtain⟨_,_,_,_,_,_,_,_,hbl⟩:=a4Z hby
    have h5:=a0W hbl i hi;rw[b2N (by rw[<-hd];exact b4i hxm)] at h5;cases h5
   ·refine hkp i hi k ?_
    rw[show y8 (s.put ox.dst v).t i=y8 s.t i by
     cases hxd:ox.dst with
     | none=>rfl
     | some d=>exact a3v λe=>hd (by rw[hxd,e])]
    exact hik
  refine⟨hkp',h2 _ R (λt ht=>?_) (by rw[a5z];exact hkp') ?_⟩
  ·cases hd:dst with
   | none=>rfl
   | some d=>exact a3v λe=>by subst e;exact P1 hn2 _ hd ht
  ·have hcm:(S.put ⟨s.t,o'⟩ dst u).put ox.dst v=S.put ⟨(s.put ox.dst v).t,o'⟩ dst u:=by
    rw[a3w (λz hz hz'=>by
     rw[d41] at hn3
     rcases hn3 with h|h
     ·rw[hz'] at h;cases h
     ·rw[hz',hz] at h;simp at h)]
    cases ox.dst <;> rfl
   rw[hcm];exact hR
theorem a5O {prs:List (Nat×Nat)} {all:List Oper} {y:Nat} {oy:Oper} {l:List Nat} (hoy:all[y]?=some oy) (hty:a8f all y=false) (hby:a3N all y=some l):∀ {pre post:List Nat} {s:S} {K:S->Prop},(∀x∈pre,a9K all x/\∀ox,all[x]?=some ox->a5M (v6 all) prs ox oy=true/\a9I prs ox/\(U4 ox.dst (B7 (v6 all) oy) && U4 oy.dst (B7 (v6 all) ox) && (ox.dst.isNone || ox.dst != oy.dst))=true/\∃ks,a2m (v6 all) ox=some ks/\∀k∈ks,k∈l)->PP prs s->a1R (v6 all) all (pre++y::post) s K->a1R (v6 all) all (y::(pre++post)) s K
 | [],post,s,K,_,_,h=>h
 | x::pre,post,s,K,ha,hP,h=>by
  rw[d43,a1R] at h;obtain⟨hx,hxx⟩:=ha x (d3L ..);cases hox:all[x]? with
  | none =>
   rw[hox] at h;have h1:=a5O hoy hty hby (λz hz=>ha z (d3M _ hz)) hP h;rw[a1R,hoy] at h1 ⊢;simp only at h1 ⊢;refine a69.execD_mono (λs hs=>?_) h1;rw[d43,a1R,hox];exact hs
  | some ox =>
   rw[hox] at h;simp only at h;obtain⟨hap,hf,hn,ks,hks,hkl⟩:=hxx ox hox;rw[a3y hx] at h
   have h2:s8 j5 (v6 all) ox s λs=>a0y j5 (v6 all) all y oy s λs=>a1R (v6 all) all (pre++post) s K:=a0K (λs hs=>by
    have:=a5O hoy hty hby (λz hz=>ha z (d3M _ hz)) hs.1 hs.2;rw[a1R,hoy] at this
    exact this) (a43 hP hf h)
   rw[a1R,hoy];simp only;have h3:=d0P (prs:=prs) hoy hty hby hn hks hkl hap (d3U hox) hP h2;refine a69.execD_mono (λs hs=>?_) h3;rw[d43,a1R,hox];simp only;rw[a3y hx];exact hs
def a9L (dsts:List (Option Nat)) (prs:List (Nat×Nat)) (ops:List Oper) (an:List (List Nat)) (j i:Nat):Bool:=(an.getD i []).contains j || match ops[j]?,ops[i]? with|some x,some y=>a5M dsts prs x y|_,_=>true
def a9M (ops:Array Oper):Bool :=
 let l:=ops.toList
 let an:=N6 l []
 let d:=v6 l
 l.all (b7s (a0o l)) && (List.range l.length).all λi=>(an.getD i []).all (λj=>Nat.blt j i) && (List.range i).all λj=>a9L d (a0o l) l an j i
theorem a9N:∀(l:List Oper) (acc:List (List Nat)) (i:Nat),i<acc.length->(N6 l acc)[i]?=acc[i]?
 | [],acc,i,_=>rfl
 | o::l,acc,i,h=>by rw[N6,a9N l _ i (by simp;omega),d4b h]
theorem b71:∀(l:List Oper) (acc:List (List Nat)) (i:Nat) (o:Oper),l[i]?=some o->(N6 l acc)[acc.length+i]?=some ((a3M o).flatMap λj=>j::(if j<acc.length+i then (N6 l acc).getD j [] else []))
 | [],acc,i,o,h=>by simp at h
 | x::l,acc,0,o,h=>by
  simp at h
  subst h;rw[N6,d4E,a9N l _ _ (by simp),d3V (d3Q _)];simp only[d4V,d5U,Option.some.injEq]
  congr 1
  funext j
  congr 1
  split
  ·rename_i hj;rw[d3W,d3W,a9N l _ j (by simp;omega),d4b hj]
  ·rename_i hj;rw[d3W,d49 (by omega)];rfl
 | x::l,acc,i+1,o,h=>by
  have:=b71 l (acc++[(a3M x).flatMap λj=>j::acc.getD j []]) i o (by simpa using h);rw[N6];have e:(acc++[(a3M x).flatMap λj=>j::acc.getD j []]).length+i=acc.length+(i+1):=by simp;omega
  rw[e] at this;exact this
section
variable {I0:Nat->Nat->Prop} {X:Nat->Prop} {w0:W0} {s:S} {a:Act} {w:World}
theorem d0Q {ro:Option Nat} {n:Nat} {ops:Array Oper} {Q:Exit->Act->World->Prop} {o:Oper} (hop:a1A Tryz.prog o.op=true) (h:Rel I0 X w0 s a w) {K1:S->Prop} {ix:Nat} (hx:a0y j5 (v6 ops.toList) ops.toList ix o s K1) {Kw:Act->World->Prop} (hKw:∀s' a' w',Rel I0 X w0 s' a' w'->K1 s'->Kw a' w'):if Region.wanted o (yielded ops a.tmps) then o.wpIn (FW ro) n Tryz.prog a w Kw Q else (∀f,o.about Tryz.prog w a.eval=some f->(FW ro).fn f)/\Kw (a.put o.dst undef) w:=by
 obtain⟨dst,op,type,pos,after,gd⟩:=o
 have hstep:U5 j5 ops.toList ix s dst K1 op->Oper.wpIn (FW ro) n Tryz.prog ⟨dst,op,type,pos,after,gd⟩ a w Kw Q:=λhs=>by
  obtain⟨I,g,h⟩:=h;have h0:H6 j5 false s dst K1 op->Oper.wpIn (FW ro) n Tryz.prog ⟨dst,op,type,pos,after,gd⟩ a w Kw Q:=λhs=>a96 (λc hc=>a3t hop c hc) (Oper.wp_mono (λa' w' ⟨s',h1,h2⟩=>hKw s' a' w' h1 h2) (b2I h (o:=⟨dst,op,type,pos,after,gd⟩) (Q:=Q) hop hs))
  unfold U5 at hs
  split at hs
  ·rename_i x args ts
   split at hs
   ·rename_i f vs hf
    split at hs
    ·unfold a4g at hf
     split at hf <;> try cases hf
     rename_i f' ks hfn
     replace hf:some (f',a4k (N3 s.get args.toList) (a9b ks))=some (f,vs):=by
      split at hf
      ·exact hf
      ·split at hf
       ·cases hf
       ·exact hf
     injection hf with hf;injection hf with e1 e2;subst e1;obtain⟨cs,hc1,hc2⟩:=c1x h hfn;refine a96 (λc hc=>a3t hop c hc) (Oper.wp_mono (λa' w' ⟨s',h1,h2⟩=>hKw s' a' w' h1 h2) (a92 h (o:=⟨dst,.call ⟨.value x,args,ts⟩,type,pos,after,gd⟩) (λhf=>a2b (cs:=cs) rfl hc1 hf) ?_ hs));rw[<-e2,a1z];exact(h.gets args.toList).append hc2
    ·split at hs
     ·unfold a4g at hf
      split at hf <;> try cases hf
      rename_i f' ks hfn
      replace hf:some (f',a4k (N3 s.get args.toList) (a9b ks))=some (f,vs):=by
       split at hf
       ·exact hf
       ·split at hf
        ·cases hf
        ·exact hf
      injection hf with hf;injection hf with e1 e2;subst e1;obtain⟨cs,hc1,hc2⟩:=c1x h hfn;refine a96 (λc hc=>a3t hop c hc) (Oper.wp_mono (λa' w' ⟨s',h1,h2⟩=>hKw s' a' w' h1 h2) (c1v h (o:=⟨dst,.call ⟨.value x,args,ts⟩,type,pos,after,gd⟩) (λhf=>a2b (cs:=cs) rfl hc1 hf) ?_ hs));rw[<-e2,a1z];exact(h.gets args.toList).append hc2
     ·exact h0 hs
   ·exact h0 hs
  ·exact h0 hs
 have hskip:K1 (s.put dst vun)->Kw (a.put dst undef) w:=λhs=>by
  obtain⟨I,g,h⟩:=h;exact hKw _ _ w ⟨I,g,h.put (x:=vun) (.tu [] [] rfl (λi u c hu _=>by simp at hu)) dst⟩ hs
 cases gd with
 | none =>
  rw[d3I (by rfl)];exact hstep hx
 | some jb =>
  obtain⟨j,b⟩:=jb
  have hx':guard s (v6 ops.toList) j (fun
   | some c=>match bEq c b with
    | true=>U5 j5 ops.toList ix s dst K1 op
    | false=>K1 (s.put dst vun)
   | none=>K1 (s.put dst vun)):=hx
  obtain⟨c,hc,hK⟩:=a95 h hx';have hw:Region.wanted ⟨dst,op,type,pos,after,some (j,b)⟩ (yielded ops a.tmps)=(c == some b):=by simp[Region.wanted,hc]
  rw[hw];cases c with
  | none =>
   rw[d3G (by simp)];exact⟨λ_ _=>trivial,hskip hK⟩
  | some c =>
   simp only at hK
   split at hK
   ·rename_i hb;rw[a2X] at hb;rw[d3I (by simpa using hb)];exact hstep hK
   ·rename_i hb;rw[a2X] at hb;rw[d3G (by simpa using hb)];exact⟨λ_ _=>trivial,hskip hK⟩
theorem b72 {ops:Array Oper} {i:Nat} {o:Oper} (h:ops[i]?=some o) (hlt:∀j∈(N6 ops.toList []).getD i [],j<i):(N6 ops.toList []).getD i []=(a3M o).flatMap λj=>j::(N6 ops.toList []).getD j []:=by
 have h1:=b71 ops.toList [] i o (by simpa using h);simp only[d3Y,d4L] at h1
 have h2:(N6 ops.toList []).getD i []=(a3M o).flatMap λj=>j::(if j<i then (N6 ops.toList []).getD j [] else []):=by
  rw[d3W,h1];rfl
 have h3:∀j∈a3M o,j<i:=λj hj=>hlt j (by rw[h2];exact d40.2 ⟨j,hj,d3L ..⟩)
 rw[h2,List.flatMap_def,List.flatMap_def]
 congr 1
 exact d5s λj hj=>by rw[d3I (h3 j hj)]
theorem a9O {o:Oper} {e:Edge} (he:e∈o.after) (hb:Region.binds .any e=true):e.on∈a3M o:=d4U.2 ⟨e,d5y.2 ⟨by simpa using he,hb⟩,rfl⟩
theorem c5k {ro:Option Nat} {n:Nat} {ops:Array Oper} {Q:Exit->Act->World->Prop} {K:S->Prop} (hQ:∀s' a' w',Rel I0 X w0 s' a' w'->K s'->Q .normal a' w') (hok:b7t Tryz.prog ops.toList=true) (hd:a9M ops=true) (hfree:∀o∈ops.toList,a9I (a0o ops.toList) o):∀(fuel:Nat) (l:List Nat) (listed:Array Bool) (s:S) (a:Act) (w:World),l.length=fuel->listed.size=ops.size->l.Pairwise (·<·)->(∀i,i∈l↔i<ops.size/\listed.getD i true=false)->(∀i,i<ops.size->listed.getD i false=true->∀j∈(N6 ops.toList []).getD i [],listed.getD j false=true)->Rel I0 X w0 s a w->PP (a0o ops.toList) s->a1R (v6 ops.toList) ops.toList l s K->wpAnyIn (FW ro) n Tryz.prog .any ops Q fuel listed a w:=by
 have hd':∀i,i<ops.size->(∀j∈(N6 ops.toList []).getD i [],j<i)/\∀j,j<i->a9L (v6 ops.toList) (a0o ops.toList) ops.toList (N6 ops.toList []) j i=true:=λi hi=>by
  have h1:=d4f.1 (d5F.1 hd).2 i (by simpa using hi);rw[d3N] at h1;exact⟨λj hj=>by simpa [d4W] using d4f.1 h1.1 j hj,λj hj=>d4f.1 h1.2 j (by simpa using hj)⟩
 intro fuel
 induction fuel with
 | zero =>
  intro l listed s a w hl hsz hp hmem hcl hrel hPP hK;obtain rfl:=List.length_eq_zero_iff.1 hl;refine⟨?_,hQ _ _ _ hrel hK⟩;cases hr:Region.ready .any ops listed with
  | nil=>rfl
  | cons x xs =>
   obtain⟨h1,o,h2,_⟩:=mem_ready.1 (show x∈Region.ready .any ops listed by rw[hr];exact d3L ..);have:=(hmem x).2 ⟨(d3Z.1 h2).1,h1⟩
   simp at this
 | succ fuel ih =>
  intro l listed s a w hl hsz hp hmem hcl hrel hPP hK
  have un:∀j,j∈l->listed.getD j false=true->False:=λj hj h=>by
   obtain⟨h1,h2⟩:=(hmem j).1 hj
   simp[hsz,h1] at h h2
   rw[h2] at h;cases h
  refine⟨λhr=>?_,λi hi=>?_⟩
  ·exfalso;cases l with
   | nil=>simp at hl
   | cons i0 rest =>
    obtain⟨h1,h2⟩:=(hmem i0).1 (d3L ..);obtain⟨o,ho⟩:∃o,ops[i0]?=some o:=⟨_,d4I h1⟩
    have:i0∈Region.ready .any ops listed:=mem_ready.2 ⟨h2,o,ho,λe he hb=>by
     have h3:e.on∈(N6 ops.toList []).getD i0 []:=by
      rw[b72 ho (hd' i0 h1).1];exact d40.2 ⟨e.on,a9O he hb,d3L ..⟩
     have h4:=(hd' i0 h1).1 _ h3
     have h5:¬(e.on∈i0::rest):=λhm=>by
      rcases d3R.1 hm with hm|hm
      ·omega
      ·have:=(d4C.1 hp).1 _ hm;omega
     have h6:listed.getD e.on true=true:=by
      cases hx:listed.getD e.on true with
      | true=>rfl
      | false=>exact absurd ((hmem e.on).2 ⟨by omega,hx⟩) h5
     have hlt:e.on<listed.size:=by omega
     simpa [hlt] using h6⟩
    rw[hr] at this
    simp at this
  ·obtain⟨h1,o,ho,hall⟩:=mem_ready.1 hi;have hlt:=(d3Z.1 ho).1;have hil:i∈l:=(hmem i).2 ⟨hlt,h1⟩
   have han:∀j∈(N6 ops.toList []).getD i [],listed.getD j false=true:=λj hj=>by
    rw[b72 ho (hd' i hlt).1] at hj;obtain⟨k,hk,hj⟩:=d40.1 hj;obtain⟨e,he,hek⟩:=d4U.1 hk;obtain⟨he1,he2⟩:=d5y.1 he;subst hek;have h3:=hall e (by simpa using he1) he2
    rcases d3R.1 hj with rfl|hj
    ·exact h3
    ·have:e.on<ops.size:=by
      rcases d4F e.on listed.size with h'|h'
      ·omega
      ·simp[Array.getElem?_eq_none h'] at h3
     exact hcl _ this h3 j hj
   obtain⟨pre,post,rfl⟩:=List.append_of_mem hil;have hpp:=d6m.1 hp;have hot:ops.toList[i]?=some o:=by rw[d4B];exact ho
   have hpre:∀j∈pre,j<i/\j∉(N6 ops.toList []).getD i []:=λj hj=>⟨hpp.2.2 j hj i (d3L ..),λhm=>un j (d5n _ hj) (han j hm)⟩
   have tot:∀k,a8f ops.toList k=true->k<ops.size->∀j,j<ops.size->j≠k->(j<k->j∈(N6 ops.toList []).getD k [])/\(k<j->k∈(N6 ops.toList []).getD j []):=λk hk hks j hj hjk=>by
    have h3:=d4f.1 hk j (by simpa using hj);simp only[d41,d3N,Nat.beq_eq,d4W,d4O] at h3
    rcases h3 with (h3|h3)|h3
    ·exact absurd h3 hjk
    ·exact⟨λ_=>h3.2,λh=>by omega⟩
    ·exact⟨λh=>by omega,λ_=>h3.2⟩
   have hf:a1R (v6 ops.toList) ops.toList (i::(pre++post)) s K:=by
    cases hti:a8f ops.toList i with
    | true =>
     have:pre=[]:=by
      cases pre with
      | nil=>rfl
      | cons j pre =>
       obtain⟨h3,h4⟩:=hpre j (d3L ..);exact absurd ((tot i hti hlt j (by omega) (by omega)).1 h3) h4
     subst this;exact hK
    | false =>
     have hpl:∀j∈pre,a9K ops.toList j:=λj hj=>by
      obtain⟨hji,hja⟩:=hpre j hj;refine⟨?_,?_⟩
      ·cases htj:a8f ops.toList j with
       | false=>rfl
       | true=>exact absurd ((tot j htj (by omega) i hlt (by omega)).2 hji) hja
      ·cases hbj:a3N ops.toList j with
       | none=>rfl
       | some r =>
        exfalso;obtain⟨_,_,_,_,_,_,_,_,hbl⟩:=a4Z hbj;have h4:=(a5N hbl i o hot (by omega)).2 (by omega);rw[d4L] at h4;exact hja (by simpa using h4)
     have hap:∀j∈pre,∀ox,ops.toList[j]?=some ox->a5M (v6 ops.toList) (a0o ops.toList) ox o=true:=λj hj ox hox=>by
      obtain⟨hji,hja⟩:=hpre j hj;have h3:=(hd' i hlt).2 j hji;rw[a9L,d41] at h3
      rcases h3 with h3|h3
      ·exact absurd (by simpa using h3) hja
      ·rw[hox,hot] at h3;exact h3
     cases hbi:a3N ops.toList i with
     | none=>exact a75 (prs:=a0o ops.toList) hot ⟨hti,hbi⟩ (λj hj=>⟨hpl j hj,λox hox=>⟨hap j hj ox hox,hfree ox (d3U hox)⟩⟩) hPP hK
     | some r =>
      refine a5O (prs:=a0o ops.toList) hot hti hbi (λj hj=>⟨hpl j hj,λox hox=>⟨hap j hj ox hox,hfree ox (d3U hox),?_⟩⟩) hPP hK;obtain⟨hji,hja⟩:=hpre j hj;obtain⟨_,_,_,_,_,_,_,hoi,hbl⟩:=a4Z hbi;rw[hot] at hoi;have hoi:=Option.some.inj hoi;subst hoi;have h4:=(a5N hbl j ox hox (by omega)).1 (by omega);rw[d4L] at h4
      rcases h4 with h4|⟨h5,ks,h6,h7⟩
      ·exact absurd (by simpa using h4) hja
      ·exact⟨h5,ks,h6,h7⟩
   rw[a1R,hot] at hf;simp only at hf;have hom:o∈ops.toList:=d3U hot;have hf:=b4h hPP (hfree o hom) hf
   have key:=d0Q (ro:=ro) (n:=n) (Q:=Q) (d4f.1 hok o (d3U (by rw[d4B];exact ho))) hrel hf (Kw:=wpAnyIn (FW ro) n Tryz.prog .any ops Q fuel (listed.setIfInBounds i true)) (λs' a' w' hrel' hK'=>by
    refine ih (pre++post) _ s' a' w' (by simp at hl ⊢;omega) (by simpa using hsz) ?_ (λk=>?_) (λk hk hkl j hj=>?_) hrel' hK'.1 hK'.2
    ·exact d6m.2 ⟨hpp.1,(d4C.1 hpp.2.1).2,λx hx y hy=>hpp.2.2 x hx y (d3M _ hy)⟩
    ·by_cases hik:i=k
     ·subst hik;refine⟨λhm=>?_,λhm=>?_⟩
      ·rcases d4s.1 hm with hm|hm
       ·have:=hpp.2.2 _ hm i (d3L ..);omega
       ·have:=(d4C.1 hpp.2.1).1 _ hm;omega
      ·have h6:=hm.2;have hlt':i<listed.size:=by omega
       simp[hlt'] at h6
     ·rw[getD_set_ne true hik,<-hmem k];simp only[d4s,d3R];exact⟨λh=>h.imp id .inr,λh=>h.imp id λh=>h.resolve_left λe=>hik e.symm⟩
    ·by_cases hik:i=k
     ·subst hik;exact getD_set_true (han j hj)
     ·rw[getD_set_ne false hik] at hkl
      exact getD_set_true (hcl k hk hkl j hj))
   unfold wpOpIn;rw[ho];simp only
   split at key
   ·rename_i hw;rw[d3I hw];exact key
   ·rename_i hw;rw[d3G hw];exact key
theorem c5l {ro:Option Nat} {n:Nat} {ops:Array Oper} {Q:Exit->Act->World->Prop} {K:S->Prop} (hQ:∀s' a' w',Rel I0 X w0 s' a' w'->K s'->Q .normal a' w') (hok:b7t Tryz.prog ops.toList=true) (hd:a9M ops=true) (h:Rel I0 X w0 s a w) (hpre:b1y (a0o ops.toList) s.t=true) (hK:b5O j5 (v6 ops.toList) ops.toList 0 ops.toList s K):wpAnyIn (FW ro) n Tryz.prog .any ops Q ops.size (Array.replicate ops.size false) a w:=by
 refine c5k hQ hok hd (λo ho=>c1K (d4f.1 (d5F.1 hd).1 o ho)) ops.size (List.range ops.size) _ s a w (by simp) (by simp) List.pairwise_lt_range (λi=>?_) (λi hi h=>?_) h (c71 hpre) ?_
 ·rw[d6a];exact⟨λhi=>⟨hi,by simp[hi]⟩,λh=>h.1⟩
 ·simp[hi] at h
 ·have h3:=a69 ops.toList 0 s K (by simp) hK;rw[<-List.range_eq_range'] at h3
  simpa using h3
end
end
end Go.Proofs.YtdjnoafijjepcaaGreat.Vm
end
