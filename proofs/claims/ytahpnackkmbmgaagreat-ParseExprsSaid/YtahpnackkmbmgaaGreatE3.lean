/- Part 3 of the proof. Conditions: none. -/
import Derived.Test.YtahpnackkmbmgaaGreatE2
import Derived.Orders
import Derived.Test.YtahpnackkmbmgaaGreatE0
set_option linter.all false
set_option linter.unusedVariables false
set_option linter.unusedSimpArgs false
section
namespace Go.Proofs.YtahpnackkmbmgaaGreat.Vm
open Go.RowKit
set_option maxRecDepth 100000
set_option maxHeartbeats 4000000
section
def a6j:Op→Bool
 | .alloc _=>false
 | .box _ _=>false
 | .store _ _ _=>false
 | .buildSlice _ 0 _=>false
 | .call ⟨.builtin .append,_,_⟩=>false
 | .makeSlice _ _ _=>false
 | .makeMap _ _=>false
 | .mapUpdate _ _ _ _=>false
 | _=>true
theorem J6 {a:Ar} {s:S} {dst:Option Nat} {K:S→Prop} {op:Op} (h:a6j op=true):G4 a false s dst K op=I3 a s.get s.o (fun v=>K (s.put dst v)) op:=by
 unfold G4
 split <;> first|rfl|cases h
def Pt (T:(V→Prop)→Prop):Prop:=∀K,T K→∃v,K v∧∀K',K' v→T K'
section
variable {os:List O} {t i:Nat} {x y z:V}
theorem a8r:Pt fun K=>J8 f7 os K t x:=by
 intro K h
 simp only [J8] at h ⊢
 repeat' split at h
 all_goals first|exact h.elim|exact ⟨_,h,fun K' hk=>by simp only [*]⟩
theorem c3A:Pt fun K=>b3z K x y z:=by
 intro K h
 simp only [b3z] at h ⊢
 repeat' split at h
 all_goals first|exact h.elim|exact ⟨_,h,fun K' hk=>by simp only [*]⟩
theorem c0F:Pt fun K=>Z8 K t i x:=by
 intro K h
 simp only [Z8] at h ⊢
 repeat' split at h
 all_goals first|exact h.elim|exact ⟨_,h,fun K' hk=>by simp only [*]⟩
theorem c3C:Pt fun K=>b3y K t i x:=by
 intro K h
 simp only [b3y] at h ⊢
 repeat' split at h
 all_goals first|exact h.elim|exact ⟨_,h,fun K' hk=>by simp only [*]⟩
theorem a9j:Pt fun K=>B6 f7 os K t x y:=by
 intro K h
 simp only [B6,a02] at h ⊢
 repeat' split at h
 all_goals first|exact h.elim|exact ⟨_,h,fun K' hk=>by simp only [*]⟩
theorem c3D:Pt fun K=>a8D f7 K t x y:=by
 intro K h
 simp only [a8D] at h ⊢
 repeat' split at h
 all_goals first|exact h.elim|exact ⟨_,h,fun K' hk=>by simp only [*]⟩
theorem c6x {op:BinOp} {x y:Value}:Pt fun K=>a8A f7 op x y K:=by
 intro K h
 simp only [a8A] at h ⊢
 split at h <;> try exact h.elim
 ·split at h
  ·rename_i hb
   unfold c87 at h ⊢
   split at h <;> try exact h.elim
   rename_i hr
   exact ⟨_,h,fun K' hk=>by first|exact hk|(rw [hb,hr];exact hk)⟩
  split at h <;> try exact h.elim
  rename_i hk
  simp only [b5k] at h ⊢
  split at h <;> first|exact h.elim|exact ⟨_,h,fun K' hk'=>by simp only [*]⟩|exact ⟨_,h.2,fun K' hk'=>by first|exact ⟨h.1,hk'⟩|(simp only [hk];exact ⟨h.1,hk'⟩)|(rw [hk];exact ⟨h.1,hk'⟩)|(split <;> simp_all)⟩
 ·simp only [b5l] at h ⊢
  split at h <;> first|exact h.elim|exact ⟨_,h,fun K' hk'=>by simp only [*]⟩|exact ⟨_,h.2,fun K' hk'=>⟨h.1,hk'⟩⟩
theorem a5y {b:Bool} {op:BinOp}:Pt fun K=>a3M b K op:=by
 intro K h
 simp only [a3M] at h ⊢
 split at h <;> first|exact h.elim|exact ⟨_,h,fun K' hk'=>hk'⟩
theorem c6y {op:BinOp}:Pt fun K=>b9Z f7 op t x y K:=by
 intro K h
 simp only [b9Z] at h ⊢
 split at h <;> try exact h.elim
 ·split at h
  ·split at h <;> try exact h.elim
   exact a5y _ h
  ·split at h <;> try exact h.elim
   exact a5y _ h
  ·exact c6x _ h
 ·split at h <;> try exact h.elim
  split at h <;> try exact h.elim
  exact a5y _ h
 ·split at h <;> try exact h.elim
  split at h <;> try exact h.elim
  exact a5y _ h
 ·split at h <;> try exact h.elim
  obtain ⟨h1,h2⟩:=h
  obtain ⟨v,h3,h4⟩:=a5y _ h2
  exact ⟨v,h3,fun K' hk=>⟨h1,h4 _ hk⟩⟩
 ·split at h <;> try exact h.elim
  exact a5y _ h
 ·split at h <;> try exact h.elim
  split at h <;> try exact h.elim
  split at h <;> try exact h.elim
  exact a5y _ h
theorem c3E {ok:Bool}:Pt fun K=>b32 f7 os K t ok x y:=by
 intro K h
 simp only [b32] at h ⊢
 repeat' split at h
 all_goals first|exact h.elim|skip
 all_goals simp only [b31,b2a] at h ⊢
 all_goals repeat' split at h
 all_goals first|exact h.elim|exact ⟨_,h,fun K' hk=>by simp only [*]⟩
theorem c0G {mx:Bool} {l:List V}:Pt fun K=>b8e f7 K mx l:=by
 intro K h
 simp only [b8e] at h ⊢
 repeat' split at h
 all_goals first|exact h.elim|exact ⟨_,h,fun K' hk=>by simp only [*]⟩
theorem c8J:Pt fun K=>nnV K x:=by
 intro K h
 simp only [nnV] at h ⊢
 split at h <;> first|exact h.elim|exact ⟨_,h,fun K' hk'=>hk'⟩
theorem c8K {op:UnOp}:Pt fun K=>unV f7 op x K:=by
 intro K h
 simp only [unV] at h ⊢
 split at h <;> first|exact h.elim|exact ⟨_,h,fun K' hk'=>hk'⟩
theorem c3F {k0 k:TK}:Pt fun K=>b3x f7 K k0 k x:=by
 intro K h
 simp only [b3x,c0a,c0b,c0c,c6c] at h ⊢
 repeat' split at h
 all_goals first|exact h.elim|exact ⟨_,h,fun K' hk=>by simp only [*]⟩
theorem b5y:Pt fun K=>a3O K i x:=by
 intro K h
 simp only [a3O] at h ⊢
 repeat' split at h
 all_goals first|exact h.elim|exact ⟨_,h,fun K' hk=>by simp only [*]⟩
theorem c6z {k:TK}:Pt fun K=>c0d f7 os K k x:=by
 intro K h
 simp only [c0d,c6d,c6e] at h ⊢
 repeat' split at h
 all_goals first|exact h.elim|exact ⟨_,h,fun K' hk=>by simp only [*]⟩
theorem c0H {g:Operand→V} {ps:List (Nat×Operand)}:Pt fun K=>a3n g K t ps:=by
 intro K h
 simp only [a3n] at h ⊢
 repeat' split at h
 all_goals first|exact h.elim|exact ⟨_,h,fun K' hk=>by simp only [*]⟩
theorem b08 {g:Operand→V} {n:Nat} {ps:List (Nat×Operand)}:Pt fun K=>H2 g os K t n ps:=by
 intro K h
 simp only [H2] at h ⊢
 repeat' split at h
 all_goals first|exact h.elim|exact ⟨_,h,fun K' hk=>by simp only [*]⟩
theorem c0I {lo hi:Option V}:Pt fun K=>a8C f7 os K t x lo hi:=by
 intro K h
 simp only [a8C] at h ⊢
 repeat' split at h
 all_goals first|exact h.elim|exact ⟨_,h,fun K' hk=>by simp only [*]⟩
theorem b6K {f:Nat} {vs:List V}:Pt fun K=>b0I f7 os K f vs:=by
 intro K h
 simp only [b0I] at h ⊢
 split at h
 ·obtain ⟨q,h1,h2⟩:=h
  exact ⟨_,h2,fun K' hk=>⟨q,h1,hk⟩⟩
 ·obtain ⟨q,h1,h2⟩:=h
  exact ⟨_,h2,fun K' hk=>⟨q,h1,hk⟩⟩
theorem c0J {vs:List V}:Pt fun K=>b2b f7 os K x vs:=by
 intro K h
 simp only [b2b] at h ⊢
 split at h <;> try exact h.elim
 exact b6K K h
theorem a2X {g:Operand→V} {op:Op}:Pt fun K=>I3 f7 g os K op:=by
 intro K h
 simp only [I3] at h ⊢
 split at h <;> try exact h.elim
 ·exact ⟨_,h,fun K' hk=>hk⟩
 ·exact ⟨_,h,fun K' hk=>hk⟩
 ·exact c3A K h
 ·exact a8r K h
 ·exact c0F K h
 ·exact c3C K h
 ·exact a9j K h
 ·exact c3D K h
 ·exact c6y K h
 ·exact c8K K h
 ·exact c3F K h
 ·exact c0H K h
 ·exact b08 K h
 ·exact b5y K h
 ·exact c0I K h
 ·exact c6z K h
 ·exact b6K K h
 ·exact c3E K h
 ·exact c0G K h
 ·exact c0G K h
 ·exact c8J K h
 ·split at h <;> try exact h.elim
  exact ⟨_,h,fun K' hk=>by simp only [*]⟩
 ·exact c0J K h
end
theorem a0s {g g':Operand→V}:∀ {l:List Operand},(∀x∈l,g x=g' x)→L4 g l=L4 g' l
 | [],_=>rfl
 | x::l,h=>by rw [L4,L4,h x (d2V ..),a0s fun y hy=>h y (d2W _ hy)]
theorem a4b {g g':Operand→V} {place:List (Nat×Nat)}:∀ {ps:List (Nat×Operand)} {l:List V},(∀p∈ps,g p.2=g' p.2)→a0L g place ps l=a0L g' place ps l
 | [],_,_=>rfl
 | (i,x)::ps,l,h=>by
  rw [a0L,a0L,h (i,x) (d2V ..)]
  have ih:=fun l=>a4b (place:=place) (l:=l) fun p hp=>h p (d2W _ hp)
  simp only [ih]
theorem a2z {a:Ar} {g g':Operand→V} {os:List O} {K:V→Prop} {op:Op} (h:∀x∈op.operands,g x=g' x):I3 a g os K op=I3 a g' os K op:=by
 have hm:∀l:List Operand,(∀x∈l,x∈op.operands)→∀x∈l,g x=g' x:=fun l hl x hx=>h x (hl x hx)
 unfold I3
 split
 ·rw [h _ (by simp [Op.operands])]
 ·rw [h _ (by simp [Op.operands])]
 ·rw [h _ (by simp [Op.operands]),h _ (by simp [Op.operands]),h _ (by simp [Op.operands])]
 ·rw [h _ (by simp [Op.operands])]
 ·rw [h _ (by simp [Op.operands])]
 ·rw [h _ (by simp [Op.operands])]
 ·rw [h _ (by simp [Op.operands]),h _ (by simp [Op.operands])]
 ·rw [h _ (by simp [Op.operands]),h _ (by simp [Op.operands])]
 ·rw [h _ (by simp [Op.operands]),h _ (by simp [Op.operands])]
 ·rw [h _ (by simp [Op.operands])]
 ·rw [h _ (by simp [Op.operands])]
 ·rename_i t ps
  simp only [a3n]
  have e:∀pl l,a0L g pl ps.toList l=a0L g' pl ps.toList l:=fun pl l=>a4b fun p hp=>h p.2 (by simp only [Op.operands];simp;exact ⟨p.1,by simpa using hp⟩)
  simp only [e]
 ·rename_i t n ps
  simp only [H2]
  have e:∀pl l,a0L g pl ps.toList l=a0L g' pl ps.toList l:=fun pl l=>a4b fun p hp=>h p.2 (by simp only [Op.operands];simp;exact ⟨p.1,by simpa using hp⟩)
  simp only [e]
 ·rw [h _ (by simp [Op.operands])]
 ·rename_i t x lo hi
  rw [h x (by simp [Op.operands])]
  have e1:a0h g lo=a0h g' lo:=by cases lo with
   | none=>rfl
   | some y=>rw [a0h,a0h,h y (by simp [Op.operands])]
  have e2:a0h g hi=a0h g' hi:=by cases hi with
   | none=>rfl
   | some y=>rw [a0h,a0h,h y (by simp [Op.operands])]
  rw [e1,e2]
 ·rw [h _ (by simp [Op.operands,Call.operands])]
 ·rename_i f args ts
  rw [a0s fun x hx=>h x (by simp [Op.operands,Call.operands];right;simpa using hx)]
 ·rw [h _ (by simp [Op.operands]),h _ (by simp [Op.operands])]
 ·rename_i args ts
  rw [a0s fun x hx=>h x (by simp [Op.operands,Call.operands];simpa using hx)]
 ·rename_i args ts
  rw [a0s fun x hx=>h x (by simp [Op.operands,Call.operands];simpa using hx)]
 ·rw [h _ (by simp [Op.operands])]
 ·rename_i f cs
  rw [a0s fun x hx=>h x (by simp [Op.operands];simpa using hx)]
 ·rename_i i args ts
  rw [a0s fun x hx=>h x (by simp [Op.operands,Call.operands];right;simpa using hx),h (.tmp i) (by simp [Op.operands,Call.operands])]
 ·rfl
theorem a6k:∀ {l:List Operand} {t:Nat},Operand.tmp t∈l→t∈tmps l
 | [],t,h=>by simp at h
 | x::l,t,h=>by
  rcases d3d.1 h with rfl|h
  ·simp [tmps]
  ·have h2:=a6k h
   cases x <;> simp [tmps,h2]
def o4 (a:Ar) (dsts:List (Option Nat)) (o:Oper) (s:S) (K:S→Prop):Prop:=run a false dsts [o] s K
theorem a2Y {l:List V} {i j:Nat} {v:V} (h:i≠j):v7 (H0 l i v) j=v7 l j:=by
 rw [a1g]
 rcases a3R l j with h1|⟨h1,h2⟩
 ·rcases a3R (l.set i v) j with h3|⟨h3,h4⟩
  ·rw [d3p h,h1] at h3
   injection h3 with h3
   exact h3.symm
  ·rw [d3s] at h3
   have:=(d2Q.1 h1).1
   omega
 ·rcases a3R (l.set i v) j with h3|⟨h3,h4⟩
  ·rw [d3p h] at h3
   have:=(d2Q.1 h3).1
   omega
  ·rw [h4,h2]
theorem a2Z {s:S} {d e:Option Nat} {u v:V} (h:∀x,d=some x→e≠some x):(s.put d u).put e v=(s.put e v).put d u:=by
 cases d with
 | none=>rfl
 | some x =>
  cases e with
  | none=>rfl
  | some y =>
   have hne:x≠y:=fun e=>h x rfl (by rw [e])
   simp only [S.put,a1g]
   congr 1
   exact List.set_comm _ _ hne
def a3a (l:List Nat) (s s':S):Prop:=s'.o=s.o∧∀t∈l,v7 s'.t t=v7 s.t t
theorem P1 {l:List Nat} {s:S} {d:Option Nat} {v:V} (h:∀x,d=some x→x∉l):a3a l s (s.put d v):=by
 cases d with
 | none=>exact ⟨rfl,fun _ _=>rfl⟩
 | some x=>exact ⟨rfl,fun t ht=>a2Y fun e=>h x rfl (e ▸ ht)⟩
theorem a3a.symm {l:List Nat} {s s':S} (h:a3a l s s'):a3a l s' s:=⟨h.1.symm,fun t ht=>(h.2 t ht).symm⟩
theorem a3a.ops {l:List Nat} {s s':S} (h:a3a l s s') {xs:List Operand} (hx:∀t∈tmps xs,t∈l):∀x∈xs,s'.get x=s.get x:=fun x hxm=>by
 cases x with
 | tmp t=>exact h.2 t (hx t (a6k hxm))
 | const v=>rfl
 | global g=>rfl
 | func f=>rfl
theorem a9k {dsts:List (Option Nat)} {s s':S} {j:Nat} {K:Option Bool→Prop} (h:∀d,getD dsts j=some d→v7 s'.t d=v7 s.t d):guard s' dsts j K=guard s dsts j K:=by
 unfold guard
 cases hd:getD dsts j with
 | none=>rfl
 | some d=>simp only [h d hd]
theorem a2h {dsts:List (Option Nat)} {s:S} {j:Nat} {K:Option Bool→Prop} (h:guard s dsts j K):∃c,K c∧∀K',K' c→guard s dsts j K':=by
 unfold guard at h ⊢
 repeat' split at h
 all_goals first|exact h.elim|exact ⟨_,h,fun K' hk=>by simp only [*]⟩
theorem a6l {dsts:List (Option Nat)} {o:Oper} (hc:a6j o.op=true) {s:S} {K:S→Prop} (h:o4 f7 dsts o s K):∃v,K (s.put o.dst v)∧∀s' K',a3a (A3 dsts o) s s'→K' (s'.put o.dst v)→o4 f7 dsts o s' K':=by
 obtain ⟨dst,op,type,pos,after,gd⟩:=o
 have hst:∀ {s s':S} {K:S→Prop} {l:List Nat},(∀t∈tmps op.operands.toList,t∈l)→a3a l s s'→G4 f7 false s dst K op→∃v,K (s.put dst v)∧∀K',K' (s'.put dst v)→G4 f7 false s' dst K' op:=fun {s s' K l} hl hs h=>by
  rw [J6 hc] at h
  obtain ⟨v,h1,h2⟩:=a2X _ h
  refine ⟨v,h1,fun K' hk=>?_⟩
  rw [J6 hc,hs.1]
  have e:=a2z (a:=f7) (os:=s.o) (K:=fun v=>K' (s'.put dst v)) (op:=op) (g:=s.get) (g':=s'.get) fun x hx=>((hs.ops (xs:=op.operands.toList) hl) x (by simpa using hx)).symm
  rw [←e]
  exact h2 _ hk
 cases gd with
 | none =>
  have hl:∀t∈tmps op.operands.toList,t∈A3 dsts ⟨dst,op,type,pos,after,none⟩:=fun t ht=>by simp [A3,ht]
  have h':G4 f7 false s dst K op:=h
  rw [J6 hc] at h'
  obtain ⟨v,h1,h2⟩:=a2X _ h'
  refine ⟨v,h1,fun s' K' hs hk=>?_⟩
  show G4 f7 false s' dst K' op
  rw [J6 hc,hs.1]
  have e:=a2z (a:=f7) (os:=s.o) (K:=fun v=>K' (s'.put dst v)) (op:=op) (g:=s.get) (g':=s'.get) fun x hx=>((hs.ops (xs:=op.operands.toList) hl) x (by simpa using hx)).symm
  rw [←e]
  exact h2 _ hk
 | some jb =>
  obtain ⟨j,b⟩:=jb
  have hl:∀t∈tmps op.operands.toList,t∈A3 dsts ⟨dst,op,type,pos,after,some (j,b)⟩:=fun t ht=>by simp [A3,ht]
  have hg:∀s',a3a (A3 dsts ⟨dst,op,type,pos,after,some (j,b)⟩) s s'→∀d,getD dsts j=some d→v7 s'.t d=v7 s.t d:=fun s' hs d hd=>hs.2 d (by simp [A3,hd])
  have h':guard s dsts j (fun
   | some c=>match bEq c b with
    | true=>G4 f7 false s dst K op
    | false=>K (s.put dst vun)
   | none=>K (s.put dst vun)):=h
  have a2O:∀(c:Option Bool) {s':S} {K':S→Prop},(∀K',K' c→guard s dsts j K')→a3a (A3 dsts ⟨dst,op,type,pos,after,some (j,b)⟩) s s'→(match c with
   | some c=>match bEq c b with
    | true=>G4 f7 false s' dst K' op
    | false=>K' (s'.put dst vun)
   | none=>K' (s'.put dst vun))→o4 f7 dsts ⟨dst,op,type,pos,after,some (j,b)⟩ s' K':=fun c {s' K'} h2 hs hx=>by
   show guard s' dsts j (fun
    | some c=>match bEq c b with
     | true=>G4 f7 false s' dst K' op
     | false=>K' (s'.put dst vun)
    | none=>K' (s'.put dst vun))
   rw [a9k (hg s' hs)]
   exact h2 _ hx
  obtain ⟨c,h1,h2⟩:=a2h h'
  cases c with
  | none=>exact ⟨vun,h1,fun s' K' hs hk=>a2O none h2 hs hk⟩
  | some c =>
   cases hb:bEq c b with
   | false =>
    simp only [hb] at h1
    exact ⟨vun,h1,fun s' K' hs hk=>a2O (some c) h2 hs (by simp only [hb];exact hk)⟩
   | true =>
    simp only [hb] at h1
    rw [J6 hc] at h1
    obtain ⟨v,h3,h4⟩:=a2X _ h1
    refine ⟨v,h3,fun s' K' hs hk=>a2O (some c) h2 hs ?_⟩
    simp only [hb]
    rw [J6 hc,hs.1]
    have e:=a2z (a:=f7) (os:=s.o) (K:=fun v=>K' (s'.put dst v)) (op:=op) (g:=s.get) (g':=s'.get) fun x hx=>((hs.ops (xs:=op.operands.toList) hl) x (by simpa using hx)).symm
    rw [←e]
    exact h4 _ hk
theorem b3L {a:Ar} {g:Operand→V} {os os':List O} {K:V→Prop} {op:Op} (h:a5x op=true):I3 a g os K op=I3 a g os' K op:=by
 unfold I3
 split <;> first|rfl|cases h
theorem a9l {op:Op} (h:a5x op=true):a6j op=true:=by
 cases op <;> first|rfl|cases h
def a9m (l:List Nat) (s s':S):Prop:=∀t∈l,v7 s'.t t=v7 s.t t
theorem a1l (t:List V) (o o':List O) (d:Option Nat) (v:V):(⟨(S.put ⟨t,o⟩ d v).t,o'⟩:S)=S.put ⟨t,o'⟩ d v:=by cases d <;> rfl
theorem b8p {dsts:List (Option Nat)} {x:Oper} (hb:a5x x.op=true) {t:List V} {o o':List O} {K:S→Prop} (h:o4 f7 dsts x ⟨t,o⟩ (fun r=>K ⟨r.t,o'⟩)):o4 f7 dsts x ⟨t,o'⟩ K:=by
 obtain ⟨dst,op,type,pos,after,gd⟩:=x
 have hst:G4 f7 false ⟨t,o⟩ dst (fun r=>K ⟨r.t,o'⟩) op→G4 f7 false ⟨t,o'⟩ dst K op:=fun h=>by
  rw [J6 (a9l hb)] at h ⊢
  simp only [a1l] at h
  rw [b3L (os':=o') hb] at h
  exact h
 cases gd with
 | none=>exact hst h
 | some jb =>
  obtain ⟨j,b⟩:=jb
  have h':guard ⟨t,o⟩ dsts j (fun
   | some c=>match bEq c b with
    | true=>G4 f7 false ⟨t,o⟩ dst (fun r=>K ⟨r.t,o'⟩) op
    | false=>K ⟨(S.put ⟨t,o⟩ dst vun).t,o'⟩
   | none=>K ⟨(S.put ⟨t,o⟩ dst vun).t,o'⟩):=h
  show guard ⟨t,o'⟩ dsts j (fun
   | some c=>match bEq c b with
    | true=>G4 f7 false ⟨t,o'⟩ dst K op
    | false=>K (S.put ⟨t,o'⟩ dst vun)
   | none=>K (S.put ⟨t,o'⟩ dst vun))
  obtain ⟨c,h1,h2⟩:=a2h h'
  refine (a9k (s:=⟨t,o⟩) (s':=⟨t,o'⟩) fun d _=>rfl).mpr (h2 _ ?_)
  cases c with
  | none=>rw [a1l] at h1;exact h1
  | some c =>
   cases hb:bEq c b with
   | true=>simp only [hb] at h1 ⊢;exact hst h1
   | false=>simp only [hb,a1l] at h1 ⊢;exact h1
theorem a6m {dsts:List (Option Nat)} {x:Oper} (hb:a5x x.op=true) {s:S} {K:S→Prop} (h:o4 f7 dsts x s K):∃v,K (s.put x.dst v)∧∀s' K',a9m (A3 dsts x) s s'→K' (s'.put x.dst v)→o4 f7 dsts x s' K':=by
 obtain ⟨v,h1,h2⟩:=a6l (a9l hb) h
 refine ⟨v,h1,fun s' K' hs hk=>?_⟩
 exact b8p hb (t:=s'.t) (o:=s.o) (o':=s'.o) (h2 ⟨s'.t,s.o⟩ _ ⟨rfl,hs⟩ (by rw [a1l];exact hk))
theorem a7j {s:S} {K:S→Prop} {t:Nat} {y x:V} (h:N9 f7 s K t y x):∃o',K ⟨s.t,o'⟩∧∀(t':List V) (K':S→Prop),K' ⟨t',o'⟩→N9 f7 ⟨t',s.o⟩ K' t y x:=by
 simp only [N9] at h ⊢
 repeat' split at h
 all_goals first|exact h.elim|exact ⟨_,h,fun t' K' hk=>by simp only [*]⟩
def b5z:Op→Bool
 | .store _ _ _=>true
 | _=>false
theorem a9n {dsts:List (Option Nat)} {y:Oper} (hb:(b5z y.op && y.guard.isNone && y.dst.isNone)=true) {s:S} {K:S→Prop} (h:o4 f7 dsts y s K):∃o',K ⟨s.t,o'⟩∧∀s' K',s'.o=s.o→a9m (A3 dsts y) s s'→K' ⟨s'.t,o'⟩→o4 f7 dsts y s' K':=by
 obtain ⟨dst,op,type,pos,after,gd⟩:=y
 cases gd <;> cases dst <;> cases op <;> first|(simp [b5z] at hb;done)|skip
 rename_i t x z
 have h':N9 f7 s K t (s.get z) (s.get x):=h
 obtain ⟨o',h1,h2⟩:=a7j h'
 refine ⟨o',h1,fun s' K' ho hs hk=>?_⟩
 show N9 f7 s' K' t (s'.get z) (s'.get x)
 have hS:a3a (A3 dsts ⟨none,.store t x z,type,pos,after,none⟩) s ⟨s'.t,s.o⟩:=⟨rfl,hs⟩
 have hg:∀y∈(Op.store t x z).operands.toList,(⟨s'.t,s.o⟩:S).get y=s.get y:=hS.ops fun u hu=>by simp [A3,hu]
 have e1:s'.get z=s.get z:=by
  have:=hg z (by simp [Op.operands])
  cases z <;> first|rfl|exact this
 have e2:s'.get x=s.get x:=by
  have:=hg x (by simp [Op.operands])
  cases x <;> first|rfl|exact this
 rw [e1,e2]
 have:=h2 s'.t K' hk
 rw [←ho] at this
 exact this
def b50 (dsts:List (Option Nat)) (x y:Oper):Bool:=a6j x.op && a6j y.op && Q6 x.dst (A3 dsts y) && Q6 y.dst (A3 dsts x) && (x.dst.isNone || x.dst != y.dst)
theorem M2 {d:Option Nat} {l:List Nat} (h:Q6 d l=true):∀x,d=some x→x∉l:=fun x e=>by
 subst e
 simpa [Q6] using h
theorem c8L {dsts:List (Option Nat)} {x y:Oper} (h:b50 dsts x y=true) {s:S} {K:S→Prop} (hx:o4 f7 dsts x s fun s=>o4 f7 dsts y s K):o4 f7 dsts y s fun s=>o4 f7 dsts x s K:=by
 simp only [b50,d2Z,d36,bne_iff_ne,ne_eq] at h
 obtain ⟨⟨⟨⟨c1,c2⟩,n1⟩,n2⟩,n3⟩:=h
 obtain ⟨v1,h1,h2⟩:=a6l c1 hx
 obtain ⟨v2,h3,h4⟩:=a6l c2 h1
 refine h4 s _ (P1 (M2 n1)).symm (h2 _ _ (P1 (M2 n2)) ?_)
 rw [a2Z fun z hz e=>?_]
 ·exact h3
 ·rcases n3 with n3|n3
  ·rw [d4L] at n3
   rw [n3] at e;cases e
  ·exact n3 (by rw [e,hz])
def b3M (o:Oper):Bool:=b5z o.op && o.guard.isNone && o.dst.isNone
def a4G (dsts:List (Option Nat)) (x y:Oper):Bool:=a5x x.op && b3M y && Q6 x.dst (A3 dsts y)
def b0W:Op→Bool
 | .call ⟨.builtin .append,⟨[_,_]⟩,⟨[_,_]⟩⟩=>true
 | _=>false
def c0K:Op→Bool
 | .move _=>true
 | .nilCheck _=>true
 | .fieldAddr _ _ _=>true
 | _=>false
def c3G:Op→Bool
 | .alloc _=>true
 | _=>false
def c58:Op→Bool
 | .move _=>true
 | .assign _=>true
 | .pick _ _ _=>true
 | .load _ _=>true
 | .fieldAddr _ _ _=>true
 | .field _ _ _=>true
 | .indexAddr _ _ _=>true
 | .index _ _ _=>true
 | .binOp _ _ _ _ _=>true
 | .unOp _ _ _=>true
 | .convert _ _ _=>true
 | .build _ _=>true
 | .extract _ _=>true
 | .nilCheck _=>true
 | _=>false
def c0L:Op→Bool
 | .buildSlice _ 0 ⟨[]⟩=>true
 | _=>false
def b2s:Op→Bool
 | .load t _=>(ty t).agg
 | .build _ _=>true
 | .buildSlice _ (_+1) _=>true
 | _=>false
def b2t (dsts:List (Option Nat)) (x y:Oper):Bool:=(b0W x.op || c0L x.op) && x.guard.isNone && x.dst.isSome && (c0K y.op || b2s y.op) && y.guard.isNone && Q6 x.dst (A3 dsts y) && Q6 y.dst (A3 dsts x) && (y.dst.isNone || x.dst != y.dst)
def b51 (dsts:List (Option Nat)) (x y:Oper):Bool:=c58 x.op && x.guard.isNone && c3G y.op && y.guard.isNone && Q6 y.dst (A3 dsts x) && (x.dst.isNone || x.dst != y.dst)
def c60:Op→Bool
 | .move _=>true
 | _=>false
def b52 (dsts:List (Option Nat)) (x y:Oper):Bool:=c60 x.op && x.guard.isNone && b0W y.op && y.guard.isNone && y.dst.isSome && Q6 x.dst (A3 dsts y) && Q6 y.dst (A3 dsts x) && (x.dst.isNone || x.dst != y.dst)
def c0M (dsts:List (Option Nat)) (x y:Oper):Bool:=b50 dsts x y || a4G dsts x y || a4G dsts y x || b2t dsts x y || b51 dsts x y || b52 dsts x y
def klT:Option Nat→List V→List V
 | none,t=>t
 | some k,t=>H9 k t
def klV:Option Nat→V→V
 | none,v=>v
 | some k,v=>H1 k v
theorem a9o (k:Nat):∀l:List O,r8 (C7 k l)=r8 l:=fun l=>by rw [y5,y5,L8]
theorem a6n {o:O}:∀ {l:List O} {k:Nat},k≠r8 l→A9 (A1 l o) k=A9 l k
 | [],0,h=>absurd rfl h
 | [],k+1,_=>rfl
 | _::_,0,_=>rfl
 | _::l,k+1,h=>a6n (l:=l) fun e=>h (by rw [r8,e])
theorem a5e {o:O}:∀ {l:List O},A9 (A1 l o) (r8 l)=o
 | []=>rfl
 | _::l=>a5e (l:=l)
def a5z (k:Nat) (os o':List O):Prop:=(∀j,j≠k→A9 o' j=A9 (C7 k os) j)∧∀cs,A9 o' k≠.box cs
theorem a7H {os:List O} {z:Bool} {e:Nat} {r:List (List D)}:a5z (r8 os) os (A1 (C7 (r8 os) os) (.row z e r)) :=
 ⟨fun j hj=>a6n (by rw [a9o];exact hj),fun cs h=>by
  have h1:A9 (A1 (C7 (r8 os) os) (.row z e r)) (r8 (C7 (r8 os) os))=_:=a5e
  rw [a9o,h] at h1
  cases h1⟩
theorem a6o {o:O}:∀ {l:List O} {m j:Nat},j≠m→A9 (J5 l m o) j=A9 l j
 | [],m,j,_=>rfl
 | _::_,0,0,h=>absurd rfl h
 | _::_,0,_+1,_=>rfl
 | _::_,_+1,0,_=>rfl
 | _::l,m+1,j+1,h=>a6o (l:=l) fun e=>h (by rw [e])
theorem a6p {o:O}:∀ {l:List O} {m:Nat},A9 (J5 l m o) m=o∨A9 (J5 l m o) m=.dead
 | [],m=>.inr (by cases m <;> rfl)
 | _::_,0=>.inl rfl
 | _::l,m+1=>a6p (l:=l)
theorem b53 {k:Nat} {os:List O} {z:Bool} {e:Nat} {r:List (List D)}:a5z k os (J5 (C7 k os) k (.row z e r)) :=
 ⟨fun j hj=>a6o hj,fun cs h=>by
  rcases a6p (l:=C7 k os) (m:=k) (o:=.row z e r) with h1|h1 <;> rw [h1] at h <;> cases h⟩
theorem a9p {s:S} {d:Nat} {K:S→Prop} {t:Nat} {x y:V} (h:N5 f7 false s (some d) K t x y):∃(k:Nat) (o':List O),a5z k s.o o'∧K (S.put ⟨H9 k s.t,o'⟩ (some d) (.own k))∧∀(t':List V) (K':S→Prop),K' (S.put ⟨H9 k t',o'⟩ (some d) (.own k))→N5 f7 false ⟨t',s.o⟩ (some d) K' t x y:=by
 unfold N5 at h
 repeat' split at h
 all_goals first|exact h.elim|skip
 ·rename_i e he _ sz ys hys _ hsz _
  obtain ⟨h1,z,h2⟩:=h
  refine ⟨r8 s.o,A1 (C7 (r8 s.o) s.o) (.row z e ys),a7H,h2,fun t' K' hk=>?_⟩
  unfold N5
  simp only [he,hys,hsz]
  exact ⟨h1,z,hk⟩
 ·rename_i e he _ sz ys hys _ hsz _ k _ z e' xs hok _ hee
  obtain ⟨h1,h2⟩:=h
  refine ⟨k,_,b53,h2,fun t' K' hk=>?_⟩
  unfold N5
  simp only [he,hys,hsz,hok,hee]
  exact ⟨h1,hk⟩
theorem b0Y {s:S} {d:Nat} {K:S→Prop} {t:Nat} {x y:V} (h:N5 f7 false s (some d) K t x y):∃(kk:Option Nat) (o':List O) (k':Nat),K (S.put ⟨klT kk s.t,o'⟩ (some d) (.own k'))∧∀(t':List V) (K':S→Prop),K' (S.put ⟨klT kk t',o'⟩ (some d) (.own k'))→N5 f7 false ⟨t',s.o⟩ (some d) K' t x y:=by
 obtain ⟨k,o',_,h1,h2⟩:=a9p h
 exact ⟨some k,o',k,h1,h2⟩
theorem c61 {s:S} {d:Nat} {K:S→Prop} {op:Op} (hb:(b0W op || c0L op)=true) (h:G4 f7 false s (some d) K op):∃(k:Nat) (o':List O),a5z k s.o o'∧K (S.put ⟨H9 k s.t,o'⟩ (some d) (.own k))∧∀(t':List V) (K':S→Prop),(∀z∈op.operands,S.get ⟨t',s.o⟩ z=s.get z)→K' (S.put ⟨H9 k t',o'⟩ (some d) (.own k))→G4 f7 false ⟨t',s.o⟩ (some d) K' op:=by
 cases ha:b0W op with
 | true =>
  unfold b0W at ha
  split at ha
  ·rename_i p q t t'
   have h':N5 f7 false s (some d) K t (s.get p) (s.get q):=h
   obtain ⟨k,o',h1,h2,h3⟩:=a9p h'
   refine ⟨k,o',h1,h2,fun t2 K' hz hk=>?_⟩
   show N5 f7 false ⟨t2,s.o⟩ (some d) K' t (S.get ⟨t2,s.o⟩ p) (S.get ⟨t2,s.o⟩ q)
   rw [hz p (by simp [Op.operands,Call.operands]),hz q (by simp [Op.operands,Call.operands])]
   exact h3 _ _ hk
  ·cases ha
 | false =>
  rw [ha,d5y] at hb
  unfold c0L at hb
  split at hb
  ·rename_i t
   have h':(match (ty t).elem with|some e=>f7.new e fun z=>K ((s.fresh false (.row z e [])).put (some d) (.own (r8 s.o)))|none=>False):=h
   cases he:(ty t).elem with
   | none=>rw [he] at h';exact h'.elim
   | some e =>
    rw [he] at h'
    obtain ⟨z,h'⟩:=h'
    refine ⟨r8 s.o,_,a7H,h',fun t2 K' _ hk=>?_⟩
    show (match (ty t).elem with|some e=>f7.new e fun z=>K' ((S.fresh false ⟨t2,s.o⟩ (.row z e [])).put (some d) (.own (r8 s.o)))|none=>False)
    rw [he]
    exact ⟨z,hk⟩
  ·cases hb
theorem a9q {k:Nat}:∀(n:Nat) (l:List V),W5 n (C1 k l)=C1 k (W5 n l)
 | 0,l=>rfl
 | n+1,[]=>rfl
 | n+1,x::l=>a9q n l
theorem a9r {k:Nat}:∀ {n:Nat} {l l':List V},N8 n (C1 k l)=some l'→∃m,N8 n l=some m∧l'=C1 k m
 | 0,l,l',h=>by
  have h:some []=some l':=by cases l <;> exact h
  injection h with h
  exact ⟨[],by cases l <;> rfl,h.symm⟩
 | n+1,[],l',h=>by cases h
 | n+1,x::l,l',h=>by
  rw [C1,N8] at h
  cases e:N8 n (C1 k l) with
  | none=>rw [e] at h;cases h
  | some m' =>
   rw [e] at h
   injection h with h
   obtain ⟨m,h1,h2⟩:=a9r e
   exact ⟨x::m,by rw [N8,h1],by rw [←h,h2];rfl⟩
theorem a7k {k:Nat}:∀l:List D,C1 k (A7 l)=A7 l
 | []=>rfl
 | x::l=>by rw [A7,C1,a7k l];rfl
theorem a1O {k:Nat}:∀l:List Value,C1 k (I7 l)=I7 l
 | []=>rfl
 | v::l=>by
  rw [I7,C1,a1O l]
  congr 1
  unfold a6T
  split <;> rfl
theorem b0Z {k:Nat}:∀l m:List V,C1 k (l++m)=C1 k l++C1 k m
 | [],m=>rfl
 | x::l,m=>by rw [d3I,C1,b0Z l m];rfl
theorem a7I {k:Nat} (z:List Value):∀(n:Nat) (acc:List V),C1 k (a5b (I7 z) n acc)=a5b (I7 z) n (C1 k acc)
 | 0,acc=>rfl
 | n+1,acc=>by rw [a5b,a7I z n,b0Z,a1O];rfl
theorem a5f {k:Nat}:∀ {l:List O} {j:Nat} {cs:List V},A9 (C7 k l) j=.box cs→∃ds,A9 l j=.box ds∧cs=C1 k ds
 | [],j,cs,h=>by cases j <;> cases h
 | x::l,0,cs,h=>by
  cases x <;> rw [C7] at h <;> first|(cases h;done)|skip
  ·rename_i ds
   injection h with h
   exact ⟨ds,rfl,h.symm⟩
 | x::l,j+1,cs,h=>by
  have h:A9 (C7 k l) j=.box cs:=by cases x <;> exact h
  exact a5f (l:=l) h
theorem a2B {k:Nat}:∀ {l:List O} {j:Nat} {z:Bool} {e:Nat} {r:List (List D)},A9 (C7 k l) j=.row z e r→A9 l j=.row z e r
 | [],j,z,e,r,h=>by cases j <;> cases h
 | x::l,0,z,e,r,h=>by
  cases x <;> first|(cases h;done)|exact h
 | x::l,j+1,z,e,r,h=>by
  have h:A9 (C7 k l) j=.row z e r:=by cases x <;> exact h
  exact a2B (l:=l) h
theorem b8q {k:Nat} {x:V} (h:b8c (a89 k x)=true):b8c x=true:=by
 cases x <;> first|rfl|exact h
theorem b1a {k:Nat}:∀ {l:List V},a4W (C1 k l)=true→a4W l=true
 | [],_=>rfl
 | x::l,h=>by
  rw [C1,a4W] at h
  rw [a4W]
  cases e:b8c (a89 k x) with
  | false=>rw [e] at h;cases h
  | true=>rw [e] at h;rw [b8q e];exact b1a h
theorem b54 {k:Nat} {v:V} {cs:List V} (h:a2d (H1 k v)=some cs):∃ds,a2d v=some ds∧cs=C1 k ds:=by
 cases v with
 | ag l =>
  have h:(match a4W (C1 k l) with|true=>some (C1 k l)|false=>none)=some cs:=h
  cases e:a4W (C1 k l) with
  | false=>rw [e] at h;cases h
  | true =>
   rw [e] at h
   injection h with h
   exact ⟨l,by rw [a2d,b1a e],h.symm⟩
 | tu l=>cases l <;> cases h
 | own j =>
  have h:a2d (match U7 j k with|true=>.jk|false=>.own j)=some cs:=h
  refine ⟨[.own j],rfl,?_⟩
  show cs=[match U7 j k with|true=>.jk|false=>.own j]
  cases e:U7 j k with
  | true=>rw [e] at h;cases h
  | false=>rw [e] at h;injection h with h;exact h.symm
 | el j i z o =>
  have h:a2d (match U7 j k with|true=>.jk|false=>.el j i z o)=some cs:=h
  refine ⟨[.el j i z o],rfl,?_⟩
  show cs=[match U7 j k with|true=>.jk|false=>.el j i z o]
  cases e:U7 j k with
  | true=>rw [e] at h;cases h
  | false=>rw [e] at h;injection h with h;exact h.symm
 | jk=>cases h
 | _=>exact ⟨_,rfl,by injection h with h;exact h.symm⟩
theorem b1b {k:Nat}:∀l:List V,F4 (C1 k l)=F4 l
 | []=>rfl
 | x::l=>by rw [C1,F4,b1b l,F4]
theorem a4c {k:Nat}:∀ {l:List V} {n:Nat} {ys l':List V},splice (C1 k l) n (C1 k ys)=some l'→∃m,splice l n ys=some m∧l'=C1 k m
 | l,0,[],l',h=>by
  have h:some (C1 k l)=some l':=by cases l <;> exact h
  injection h with h
  exact ⟨l,by cases l <;> rfl,h.symm⟩
 | x::l,0,y::ys,l',h=>by
  rw [C1,C1,splice] at h
  cases e:splice (C1 k l) 0 (C1 k ys) with
  | none=>rw [e] at h;cases h
  | some m' =>
   rw [e] at h
   injection h with h
   obtain ⟨m,h1,h2⟩:=a4c e
   exact ⟨y::m,by rw [splice,h1],by rw [←h,h2];rfl⟩
 | x::l,n+1,ys,l',h=>by
  have h:(match splice (C1 k l) n (C1 k ys) with|some t=>some (a89 k x::t)|none=>none)=some l':=by rw [←h,C1,splice];cases splice (C1 k l) n (C1 k ys) <;> rfl
  cases e:splice (C1 k l) n (C1 k ys) with
  | none=>rw [e] at h;cases h
  | some m' =>
   rw [e] at h
   injection h with h
   obtain ⟨m,h1,h2⟩:=a4c e
   refine ⟨x::m,?_,by rw [←h,h2];rfl⟩
   have h3:splice (x::l) (n+1) ys=(match splice l n ys with|some t=>some (x::t)|none=>none):=by rw [splice];cases splice l n ys <;> rfl
   rw [h3,h1]
 | [],n+1,ys,l',h=>by cases ys <;> cases h
 | [],0,y::ys,l',h=>by cases h
theorem a3z {k:Nat} {g g':Operand→V} {place:List (Nat×Nat)}:∀ {ps:List (Nat×Operand)} {l l':List V},(∀p∈ps,g' p.2=H1 k (g p.2))→a0L g' place ps (C1 k l)=some l'→∃m,a0L g place ps l=some m∧l'=C1 k m
 | [],l,l',_,h=>⟨l,rfl,by injection h with h;exact h.symm⟩
 | (i,x)::ps,l,l',hg,h=>by
  rw [a0L] at h ⊢
  split at h <;> try (cases h;done)
  rename_i off sz hp
  rw [hg _ (d2V ..)] at h
  split at h <;> try (cases h;done)
  rename_i cs hc
  obtain ⟨ds,h1,rfl⟩:=b54 hc
  rw [b1b] at h
  simp only [hp,h1]
  split at h <;> try (cases h;done)
  rename_i hl
  split at h <;> try (cases h;done)
  rename_i l2 h2
  obtain ⟨m2,h3,rfl⟩:=a4c h2
  simp only [hl,h3]
  exact a3z (fun p hp=>hg p (d2W _ hp)) h
theorem c0N {k:Nat} {os o':List O} (hB:a5z k os o') {x:V} {y:D} (h:toD o' (a89 k x)=some y):toD os x=some y:=by
 cases x with
 | own j =>
  have h:toD o' (match U7 j k with|true=>.jk|false=>.own j)=some y:=h
  cases e:U7 j k with
  | true=>rw [e] at h;cases h
  | false =>
   rw [e] at h
   have h:(match A9 o' j with|.row true e rows=>some (D.sl (ty e).sz rows)|_=>none)=some y:=h
   rw [hB.1 j (a3q.1 e)] at h
   show (match A9 os j with|.row true e rows=>some (D.sl (ty e).sz rows)|_=>none)=some y
   split at h
   ·rename_i e2 rows h2
    rw [a2B h2]
    exact h
   ·cases h
 | el j i z o =>
  have h:toD o' (match U7 j k with|true=>.jk|false=>.el j i z o)=some y:=h
  cases e:U7 j k <;> rw [e] at h <;> cases h
 | cl f ks=>cases ks <;> exact h
 | _=>exact h
theorem b1c {k:Nat} {os o':List O} (hB:a5z k os o'):∀ {l:List V} {ds:List D},a5s o' (C1 k l)=some ds→a5s os l=some ds
 | [],ds,h=>h
 | x::l,ds,h=>by
  rw [C1,a5s] at h
  rw [a5s]
  split at h <;> try (cases h;done)
  rename_i y hy
  split at h <;> try (cases h;done)
  rename_i ys hys
  rw [c0N hB hy,b1c hB hys]
  exact h
theorem a7l {k:Nat} {v:V}:∀ {l:List V} {i:Nat},H9 k (H0 l i v)=H0 (H9 k l) i (H1 k v)
 | [],i=>rfl
 | _::_,0=>rfl
 | x::l,i+1=>by rw [H0,H9,a7l (l:=l),H9,H0]
theorem a1X {k:Nat}:∀ {l:List V} {i:Nat},v7 (H9 k l) i=H1 k (v7 l i)
 | [],i=>rfl
 | _::_,0=>rfl
 | x::l,i+1=>by rw [H9,v7,v7,a1X (l:=l)]
theorem c3H {kk:Option Nat} {v:V} {l:List V} {i:Nat}:klT kk (H0 l i v)=H0 (klT kk l) i (klV kk v):=by cases kk <;> first|rfl|exact a7l
theorem b6L {kk:Option Nat} {s:S} {d:Option Nat} {v:V} {o:List O}:(⟨klT kk (s.put d v).t,o⟩:S)=S.put ⟨klT kk s.t,o⟩ d (klV kk v):=by
 cases d with
 | none=>rfl
 | some d=>simp only [S.put,c3H]
theorem b6M {kk:Option Nat} {s:S} {o:List O} (x:Operand):(⟨klT kk s.t,o⟩:S).get x=klV kk (s.get x):=by
 cases kk with
 | none=>cases x <;> rfl
 | some k =>
  cases x with
  | tmp i=>exact a1X
  | const v=>cases v <;> first|rfl|(simp only [S.get,klV];unfold a6T;split <;> rfl)
  | global g=>rfl
  | func f=>rfl
theorem c3I {kk:Option Nat} {g g':Operand→V} {os os':List O} {op:Op} (hb:c0K op=true) (hg:∀x∈op.operands,g' x=klV kk (g x)) {K:V→Prop} (h:I3 f7 g' os' K op):∃v,K (klV kk v)∧∀K',K' v→I3 f7 g os K' op:=by
 have keep:∀ {v w:V},klV kk v=w→((∃k o,w=.ptr k o)∨(∃f ks,w=.cl f ks)∨(∃k i z o,w=.el k i z o)∨∃cs o,w=.ro cs o)→v=w:=fun {v w} e hw=>by
  cases kk with
  | none=>exact e
  | some k =>
   have e:H1 k v=w:=e
   cases v with
   | ag cs=>subst e;simp [H1] at hw
   | tu cs=>subst e;cases cs <;> simp [H1] at hw
   | own j =>
    subst e
    have e2:H1 k (.own j)=match U7 j k with|true=>.jk|false=>.own j:=rfl
    rw [e2] at hw
    cases he:U7 j k <;> rw [he] at hw <;> simp at hw
   | el j i z o =>
    subst e
    have e2:H1 k (.el j i z o)=match U7 j k with|true=>.jk|false=>.el j i z o:=rfl
    rw [e2] at hw ⊢
    cases he:U7 j k <;> rw [he] at hw <;> simp at hw ⊢
   | _=>exact e
 cases op <;> first|cases hb;done|skip
 ·rename_i x
  rw [show I3 f7 g' os' K (.move x)=K (g' x) from rfl,hg x (by simp [Op.operands])] at h
  exact ⟨_,h,fun K' hk=>hk⟩
 ·rename_i x
  rw [show I3 f7 g' os' K (.nilCheck x)=nnV K (g' x) from rfl] at h
  have e:=hg x (by simp [Op.operands])
  generalize g' x=w at h e
  unfold nnV at h
  split at h <;> try exact h.elim
  all_goals
   have e':=keep e.symm (by simp)
   refine ⟨g x,by rw [←e];exact h,fun K' hk=>?_⟩
   show nnV K' (g x)
   rw [e'] at hk ⊢
   exact hk
 ·rename_i t x i
  rw [show I3 f7 g' os' K (.fieldAddr t x i)=Z8 K t i (g' x) from rfl] at h
  have e:=hg x (by simp [Op.operands])
  generalize g' x=w at h e
  unfold Z8 at h
  split at h <;> try exact h.elim
  rename_i off sz hf
  split at h <;> try exact h.elim
  ·rename_i k o
   have e':=keep e.symm (by simp)
   refine ⟨.ptr k (o+off),by cases kk <;> exact h,fun K' hk=>?_⟩
   show Z8 K' t i (g x)
   unfold Z8
   rw [hf,e']
   exact hk
  ·rename_i cs o
   have e':=keep e.symm (by simp)
   refine ⟨.ro cs (o+off),by cases kk <;> exact h,fun K' hk=>?_⟩
   show Z8 K' t i (g x)
   unfold Z8
   rw [hf,e']
   exact hk
  ·rename_i k i' z o
   have e':=keep e.symm (by simp)
   have e3:klV kk (.el k i' z (o+off))=.el k i' z (o+off):=by
    rw [e'] at e
    cases kk with
    | none=>rfl
    | some j =>
     have e4:(V.el k i' z o)=match U7 k j with|true=>V.jk|false=>V.el k i' z o:=e
     show (match U7 k j with|true=>V.jk|false=>V.el k i' z (o+off))=_
     cases he:U7 k j with
     | true=>rw [he] at e4;cases e4
     | false=>rfl
   refine ⟨.el k i' z (o+off),by rw [e3];exact h,fun K' hk=>?_⟩
   show Z8 K' t i (g x)
   unfold Z8
   rw [hf,e']
   exact hk
theorem c3J {k:Nat} {g g':Operand→V} {os o':List O} {op:Op} (hb:b2s op=true) (hB:a5z k os o') (hg:∀x∈op.operands,g' x=H1 k (g x)) {K:V→Prop} (h:I3 f7 g' o' K op):∃v,K (H1 k v)∧∀K',K' v→I3 f7 g os K' op:=by
 unfold b2s at hb
 split at hb
 ·rename_i t x
  rw [show I3 f7 g' o' K (.load t x)=J8 f7 o' K t (g' x) from rfl,hg x (by simp [Op.operands])] at h
  have goal:∀ {v:V} {K':V→Prop},J8 f7 os K' t (g x)→I3 f7 g os K' (.load t x):=fun h=>h
  show ∃v,K (H1 k v)∧∀K',K' v→J8 f7 os K' t (g x)
  generalize g x=u at h
  have I5:∀ {l:List V} {K:V→Prop},(match a2N (ty t).agg (C1 k l) with|some x=>K x|none=>False)→K (H1 k (.ag l)):=fun h=>by rw [hb] at h;exact h
  cases u with
  | ptr j off =>
   have h:(match A9 o' j with|.box cs=>(match N8 (ty t).sz (W5 off cs) with|some l=>(match a2N (ty t).agg l with|some x=>K x|none=>False)|none=>False)|_=>False):=h
   show ∃v,K (H1 k v)∧∀K':V→Prop,K' v→(match A9 os j with|.box cs=>(match N8 (ty t).sz (W5 off cs) with|some l=>(match a2N (ty t).agg l with|some x=>K' x|none=>False)|none=>False)|_=>False)
   split at h <;> try exact h.elim
   rename_i cs hc
   have hj:j≠k:=fun e=>hB.2 cs (by rw [←e];exact hc)
   rw [hB.1 j hj] at hc
   obtain ⟨ds,h1,rfl⟩:=a5f hc
   rw [a9q] at h
   split at h <;> try exact h.elim
   rename_i l' hl
   obtain ⟨m,h2,rfl⟩:=a9r hl
   refine ⟨.ag m,I5 h,fun K' hk=>?_⟩
   rw [h1]
   simp only [h2,hb]
   exact hk
  | ro cs off =>
   have h:(match N8 (ty t).sz (W5 off cs) with|some l=>(match a2N (ty t).agg (A7 l) with|some x=>K x|none=>False)|none=>False):=h
   show ∃v,K (H1 k v)∧∀K':V→Prop,K' v→(match N8 (ty t).sz (W5 off cs) with|some l=>(match a2N (ty t).agg (A7 l) with|some x=>K' x|none=>False)|none=>False)
   split at h <;> try exact h.elim
   rename_i l hl
   rw [←a7k (k:=k)] at h
   exact ⟨.ag (A7 l),I5 h,fun K' hk=>by simp only [hb];exact hk⟩
  | el j i z off =>
   have h:J8 f7 o' K t (match U7 j k with|true=>.jk|false=>.el j i z off):=h
   cases e:U7 j k with
   | true=>rw [e] at h;exact h.elim
   | false =>
    rw [e] at h
    have h:(match A9 o' j with|.row _ e rows=>(match U7 (ty e).sz z with|true=>(match f7.get rows i with|some row=>(match N8 (ty t).sz (W5 off row) with|some l=>(match a2N (ty t).agg (A7 l) with|some x=>K x|none=>False)|none=>False)|none=>False)|false=>False)|_=>False):=h
    show ∃v,K (H1 k v)∧∀K':V→Prop,K' v→(match A9 os j with|.row _ e rows=>(match U7 (ty e).sz z with|true=>(match f7.get rows i with|some row=>(match N8 (ty t).sz (W5 off row) with|some l=>(match a2N (ty t).agg (A7 l) with|some x=>K' x|none=>False)|none=>False)|none=>False)|false=>False)|_=>False)
    rw [hB.1 j (a3q.1 e)] at h
    split at h <;> try exact h.elim
    rename_i e' rows hr
    rw [a2B hr]
    simp only
    split at h <;> try exact h.elim
    rename_i hz
    split at h <;> try exact h.elim
    rename_i row hrow
    split at h <;> try exact h.elim
    rename_i l hl
    rw [←a7k (k:=k)] at h
    exact ⟨.ag (A7 l),I5 h,fun K' hk=>by simp only [hz,hrow,hl,hb];exact hk⟩
  | own j =>
   have h:J8 f7 o' K t (match U7 j k with|true=>.jk|false=>.own j):=h
   cases e:U7 j k <;> rw [e] at h <;> exact h.elim
  | tu l=>cases l <;> exact h.elim
  | _=>exact h.elim
 ·rename_i t ps
  have h:a3n g' K t ps.toList:=h
  have hg':∀p∈ps.toList,g' p.2=H1 k (g p.2):=fun p hp=>hg _ (by simp [Op.operands];exact ⟨p.1,by simpa using hp⟩)
  show ∃v,K (H1 k v)∧∀K',K' v→a3n g K' t ps.toList
  unfold a3n at h ⊢
  cases hk:(ty t).kind <;> simp only [hk] at h <;> first|exact h.elim|simp only []
  ·rw [←a1O (k:=k)] at h
   split at h <;> try exact h.elim
   rename_i l' hl
   obtain ⟨m,h1,rfl⟩:=a3z hg' hl
   exact ⟨.ag m,h,fun K' hk=>by rw [h1];exact hk⟩
  ·split at h <;> try exact h.elim
   rename_i e he
   try simp only [he]
   rw [←a1O (k:=k)] at h
   split at h <;> try exact h.elim
   rename_i l' hl
   obtain ⟨m,h1,rfl⟩:=a3z hg' hl
   exact ⟨.ag m,h,fun K' hk=>by rw [h1];exact hk⟩
 ·rename_i t n ps
  have h:H2 g' o' K t (n+1) ps.toList:=h
  have hg':∀p∈ps.toList,g' p.2=H1 k (g p.2):=fun p hp=>hg _ (by simp [Op.operands];exact ⟨p.1,by simpa using hp⟩)
  show ∃v,K (H1 k v)∧∀K',K' v→H2 g os K' t (n+1) ps.toList
  unfold H2 at h ⊢
  split at h <;> try exact h.elim
  rename_i e he
  simp only [he]
  simp only at h
  rw [show a5b (I7 (ty e).zero) (n+1) []=C1 k (a5b (I7 (ty e).zero) (n+1) []) from (a7I (k:=k) (ty e).zero (n+1) []).symm] at h
  split at h <;> try exact h.elim
  rename_i l' hl
  obtain ⟨m,h1,rfl⟩:=a3z hg' hl
  split at h <;> try exact h.elim
  rename_i ds hds
  split at h <;> try exact h.elim
  rename_i rows hrows
  exact ⟨.d (.sl (ty e).sz rows),h,fun K' hk=>by simp only [h1,b1c hB hds,hrows];exact hk⟩
 ·cases hb
theorem b1d {o:O}:∀ {l:List O} {k:Nat},A9 l k≠.dead→A9 (A1 l o) k=A9 l k
 | [],k,h=>absurd rfl h
 | _::_,0,_=>rfl
 | x::l,k+1,h=>by rw [A1,A9,A9];rw [A9] at h;exact b1d h
theorem a4d {o:O} {l:List O} {k:Nat} {x:O} (h:A9 l k=x) (hd:x≠.dead):A9 (A1 l o) k=x:=by rw [b1d (by rw [h];exact hd),h]
theorem b8r {o:O} {os:List O} {x:V} {r:Option Nat×List (List D)} (h:U0 os x=some r):U0 (A1 os o) x=some r:=by
 unfold U0 at h ⊢
 split at h
 ·exact h
 ·exact h
 ·split at h
  ·rename_i hok
   rw [a4d hok (by simp)]
   exact h
  ·cases h
 ·cases h
theorem c0O {o:O} {os:List O} {x:V} {r:Nat×Nat×List (List D)} (h:a8d os x=some r):a8d (A1 os o) x=some r:=by
 unfold a8d at h ⊢
 split at h
 ·split at h
  ·rename_i hok
   simp only [a4d hok (by simp)]
   exact h
  ·cases h
 ·cases h
theorem b8s {g:Operand→V} {os:List O} {o:O} {K:V→Prop} {op:Op} (hb:c58 op=true) (h:I3 f7 g os K op):I3 f7 g (A1 os o) K op:=by
 cases op <;> first|cases hb;done|exact h|skip
 ·rename_i t x
  have h:J8 f7 os K t (g x):=h
  show J8 f7 (A1 os o) K t (g x)
  generalize g x=v at h
  unfold J8 at h ⊢
  split at h <;> try exact h.elim
  ·split at h <;> try exact h.elim
   rename_i hok
   simp only [a4d hok (by simp)]
   exact h
  ·exact h
  ·split at h <;> try exact h.elim
   rename_i hok
   simp only [a4d hok (by simp)]
   exact h
 ·rename_i t x i
  have h:B6 f7 os K t (g x) (g i):=h
  show B6 f7 (A1 os o) K t (g x) (g i)
  generalize g x=v at h
  generalize g i=u at h
  unfold B6 at h ⊢
  split at h <;> try exact h.elim
  split at h
  ·exact h
  ·split at h <;> try exact h.elim
   split at h
   ·exact h
   split at h
   ·rename_i hraw
    rw [c0O hraw]
    exact h
   ·rename_i hraw
    split at h <;> try exact h.elim
    rename_i hrows
    have e:a8d (A1 os o) v=none:=by
     unfold a8d
     split
     ·rename_i k
      unfold U0 at hrows
      simp only at hrows
      split at hrows
      ·rename_i hok
       rw [a4d hok (by simp)]
      ·cases hrows
     ·rfl
    rw [e,b8r hrows]
    exact h
theorem a5g (s:S) (d:Option Nat) (v:V):(s.put d v).o=s.o:=by cases d <;> rfl
theorem a1Y {l:List Nat} {s:S} {d:Option Nat} {v:V} (h:Q6 d l=true):a9m l s (s.put d v):=(P1 (M2 h)).2
theorem c8M {dsts:List (Option Nat)} {x y:Oper} (h:a4G dsts x y=true) {s:S} {K:S→Prop} (hx:o4 f7 dsts x s fun s=>o4 f7 dsts y s K):o4 f7 dsts y s fun s=>o4 f7 dsts x s K:=by
 simp only [a4G,d2Z] at h
 obtain ⟨v,h1,h2⟩:=a6m h.1.1 hx
 obtain ⟨o',h3,h4⟩:=a9n (by simpa [b3M] using h.1.2) h1
 refine h4 s _ (a5g ..).symm (fun t ht=>(a1Y h.2 t ht).symm) (h2 _ _ (fun _ _=>rfl) ?_)
 rw [←a1l s.t s.o o']
 exact h3
theorem c8N {dsts:List (Option Nat)} {x y:Oper} (h:a4G dsts x y=true) {s:S} {K:S→Prop} (hy:o4 f7 dsts y s fun s=>o4 f7 dsts x s K):o4 f7 dsts x s fun s=>o4 f7 dsts y s K:=by
 simp only [a4G,d2Z] at h
 obtain ⟨o',h1,h2⟩:=a9n (by simpa [b3M] using h.1.2) hy
 obtain ⟨v,h3,h4⟩:=a6m h.1.1 h1
 refine h4 s _ (fun _ _=>rfl) (h2 _ _ (a5g ..) (a1Y h.2) ?_)
 rw [←a1l s.t s.o o'] at h3
 exact h3
theorem c8O {dsts:List (Option Nat)} {x y:Oper} (h:b2t dsts x y=true) {s:S} {K:S→Prop} (hx:o4 f7 dsts x s fun s=>o4 f7 dsts y s K):o4 f7 dsts y s fun s=>o4 f7 dsts x s K:=by
 obtain ⟨xd,xop,xty,xpos,xaf,xg⟩:=x
 obtain ⟨yd,yop,yty,ypos,yaf,yg⟩:=y
 simp only [b2t,d2Z] at h
 obtain ⟨⟨⟨⟨⟨⟨⟨h1,h2⟩,h3⟩,h4⟩,h5⟩,h6⟩,h7⟩,h8⟩:=h
 cases xg with
 | some g=>cases h2
 | none =>
  cases yg with
  | some g=>cases h5
  | none =>
   cases xd with
   | none=>cases h3
   | some d =>
    have hx':G4 f7 false s (some d) (fun s=>o4 f7 dsts ⟨yd,yop,yty,ypos,yaf,none⟩ s K) xop:=hx
    obtain ⟨k,o',hB,h9,h10⟩:=c61 h1 hx'
    have h9:G4 f7 false (S.put ⟨H9 k s.t,o'⟩ (some d) (.own k)) yd K yop:=h9
    have hcalm:a6j yop=true:=by
     rcases Bool.or_eq_true_iff.1 h4 with h4|h4
     ·cases yop <;> first|rfl|cases h4
     ·unfold b2s at h4
      split at h4 <;> first|rfl|cases h4
    rw [J6 hcalm] at h9
    have hl:∀t∈Vm.tmps yop.operands.toList,t∈A3 dsts ⟨yd,yop,yty,ypos,yaf,none⟩:=fun t ht=>by simp [A3,ht]
    have hgz:∀z∈yop.operands,(S.put ⟨H9 k s.t,o'⟩ (some d) (.own k)).get z=H1 k (s.get z):=fun z hz=>by
     have hs:a3a (A3 dsts ⟨yd,yop,yty,ypos,yaf,none⟩) (⟨H9 k s.t,o'⟩:S) (S.put ⟨H9 k s.t,o'⟩ (some d) (.own k)):=P1 (M2 h6)
     rw [(hs.ops (xs:=yop.operands.toList) hl) z (by simpa using hz)]
     exact b6M (kk:=some k) z
    obtain ⟨v,h11,h12⟩:∃v,K (S.put (S.put ⟨H9 k s.t,o'⟩ (some d) (.own k)) yd (H1 k v))∧∀K',K' v→I3 f7 s.get s.o K' yop:=by
     rcases Bool.or_eq_true_iff.1 h4 with h4|h4
     ·exact c3I (kk:=some k) (g:=s.get) (os:=s.o) h4 hgz h9
     ·exact c3J h4 hB hgz h9
    show G4 f7 false s yd (fun s=>o4 f7 dsts ⟨some d,xop,xty,xpos,xaf,none⟩ s K) yop
    rw [J6 hcalm]
    refine h12 _ ?_
    show G4 f7 false (s.put yd v) (some d) K xop
    have hs2:a3a (A3 dsts ⟨some d,xop,xty,xpos,xaf,none⟩) s (s.put yd v):=P1 (M2 h7)
    have hlx:∀t∈Vm.tmps xop.operands.toList,t∈A3 dsts ⟨some d,xop,xty,xpos,xaf,none⟩:=fun t ht=>by simp [A3,ht]
    have e:s.put yd v=⟨(s.put yd v).t,s.o⟩:=by cases yd <;> rfl
    rw [e]
    refine h10 _ _ (fun z hz=>?_) ?_
    ·rw [←e]
     exact hs2.ops hlx z (by simpa using hz)
    have hne:∀z,yd=some z→some d≠some z:=fun z hz hz'=>by
     subst hz
     rw [hz'] at h8
     simp at h8
    have e2:(⟨H9 k (s.put yd v).t,o'⟩:S)=S.put ⟨H9 k s.t,o'⟩ yd (H1 k v):=b6L (kk:=some k)
    rw [e2,a2Z hne]
    exact h11
theorem c8P {dsts:List (Option Nat)} {x y:Oper} (h:b51 dsts x y=true) {s:S} {K:S→Prop} (hx:o4 f7 dsts x s fun s=>o4 f7 dsts y s K):o4 f7 dsts y s fun s=>o4 f7 dsts x s K:=by
 obtain ⟨xd,xop,xty,xpos,xaf,xg⟩:=x
 obtain ⟨yd,yop,yty,ypos,yaf,yg⟩:=y
 simp only [b51,d2Z] at h
 obtain ⟨⟨⟨⟨⟨h1,h2⟩,h3⟩,h4⟩,h5⟩,h6⟩:=h
 cases xg with
 | some g=>cases h2
 | none =>
  cases yg with
  | some g=>cases h4
  | none =>
   cases yop <;> first|cases h3;done|skip
   rename_i e
   have hcalm:a6j xop=true:=by cases xop <;> first|rfl|cases h1
   have hx':G4 f7 false s xd (fun s=>o4 f7 dsts ⟨yd,.alloc e,yty,ypos,yaf,none⟩ s K) xop:=hx
   rw [J6 hcalm] at hx'
   obtain ⟨v,h7,h8⟩:=a2X _ hx'
   have h7:(match a4W (I7 (ty e).zero) with|true=>K (((s.put xd v).obj (a6V e)).put yd (.ptr (r8 (s.put xd v).o) 0))|false=>False):=h7
   show (match a4W (I7 (ty e).zero) with|true=>o4 f7 dsts ⟨xd,xop,xty,xpos,xaf,none⟩ ((s.obj (a6V e)).put yd (.ptr (r8 s.o) 0)) K|false=>False)
   cases hon:a4W (I7 (ty e).zero) with
   | false=>rw [hon] at h7;exact h7.elim
   | true =>
    rw [hon] at h7
    simp only at h7 ⊢
    show G4 f7 false ((s.obj (a6V e)).put yd (.ptr (r8 s.o) 0)) xd K xop
    rw [J6 hcalm,a5g]
    have hl:∀t∈Vm.tmps xop.operands.toList,t∈A3 dsts ⟨xd,xop,xty,xpos,xaf,none⟩:=fun t ht=>by simp [A3,ht]
    have hs:a3a (A3 dsts ⟨xd,xop,xty,xpos,xaf,none⟩) (s.obj (a6V e)) ((s.obj (a6V e)).put yd (.ptr (r8 s.o) 0)):=P1 (M2 h5)
    have hops:=hs.ops (xs:=xop.operands.toList) hl
    rw [a2z (g':=(s.obj (a6V e)).get) fun z hz=>hops z (by simpa using hz)]
    have h9:=h8 (fun w=>K (S.put ((s.obj (a6V e)).put yd (.ptr (r8 s.o) 0)) xd w)) (by
     have e1:r8 (s.put xd v).o=r8 s.o:=by rw [a5g]
     rw [e1] at h7
     have e2:(s.put xd v).obj (a6V e)=(s.obj (a6V e)).put xd v:=by cases xd <;> rfl
     rw [e2] at h7
     have hne:∀z,yd=some z→xd≠some z:=fun z hz hz'=>by
      subst hz;subst hz'
      simp at h6
     rw [a2Z hne]
     exact h7)
    exact b8s (g:=(s.obj (a6V e)).get) h1 h9
theorem c8Q {dsts:List (Option Nat)} {x y:Oper} (h:b52 dsts x y=true) {s:S} {K:S→Prop} (hx:o4 f7 dsts x s fun s=>o4 f7 dsts y s K):o4 f7 dsts y s fun s=>o4 f7 dsts x s K:=by
 obtain ⟨xd,xop,xty,xpos,xaf,xg⟩:=x
 obtain ⟨yd,yop,yty,ypos,yaf,yg⟩:=y
 simp only [b52,d2Z] at h
 obtain ⟨⟨⟨⟨⟨⟨⟨h1,h2⟩,h3⟩,h4⟩,h5⟩,h6⟩,h7⟩,h8⟩:=h
 cases xg with
 | some g=>cases h2
 | none =>
  cases yg with
  | some g=>cases h4
  | none =>
   cases yd with
   | none=>cases h5
   | some d =>
    cases xop <;> first|cases h1;done|skip
    rename_i r
    unfold b0W at h3
    split at h3
    ·rename_i p q t t'
     have hx':N5 f7 false (s.put xd (s.get r)) (some d) K t ((s.put xd (s.get r)).get p) ((s.put xd (s.get r)).get q):=hx
     have hs2:a3a (A3 dsts ⟨some d,.call ⟨.builtin .append,⟨[p,q]⟩,⟨[t,t']⟩⟩,yty,ypos,yaf,none⟩) s (s.put xd (s.get r)):=P1 (M2 h6)
     have hops:=hs2.ops (xs:=[p,q]) fun t ht=>by simp [A3,Op.operands,Call.operands];simpa using ht
     rw [hops p (by simp),hops q (by simp)] at hx'
     obtain ⟨kk,o',k',h9,h10⟩:=b0Y hx'
     have e:s=⟨s.t,(s.put xd (s.get r)).o⟩:=by cases xd <;> rfl
     show N5 f7 false s (some d) (fun s=>o4 f7 dsts ⟨xd,.move r,xty,xpos,xaf,none⟩ s K) t (s.get p) (s.get q)
     have h11:=h10 s.t (fun s=>o4 f7 dsts ⟨xd,.move r,xty,xpos,xaf,none⟩ s K) (by
      show K (S.put (S.put ⟨klT kk s.t,o'⟩ (some d) (.own k')) xd ((S.put ⟨klT kk s.t,o'⟩ (some d) (.own k')).get r))
      have hs:a3a (A3 dsts ⟨xd,.move r,xty,xpos,xaf,none⟩) (⟨klT kk s.t,o'⟩:S) (S.put ⟨klT kk s.t,o'⟩ (some d) (.own k')):=P1 (M2 h7)
      rw [hs.ops (xs:=[r]) (fun t ht=>by simp [A3,Op.operands];simpa using ht) r (by simp),b6M r]
      rw [b6L] at h9
      have hne:∀z,(some d:Option Nat)=some z→xd≠some z:=fun z hz hz'=>by
       subst hz'
       rw [←hz] at h8
       simp at h8
      rw [a2Z hne]
      exact h9)
     rw [←e] at h11
     exact h11
    ·cases h3
theorem c8R {dsts:List (Option Nat)} {x y:Oper} (h:c0M dsts x y=true) {s:S} {K:S→Prop} (hx:o4 f7 dsts x s fun s=>o4 f7 dsts y s K):o4 f7 dsts y s fun s=>o4 f7 dsts x s K:=by
 simp only [c0M,d36] at h
 rcases h with ((((h|h)|h)|h)|h)|h
 ·exact c8L h hx
 ·exact c8M h hx
 ·exact c8N h hx
 ·exact c8O h hx
 ·exact c8P h hx
 ·exact c8Q h hx
theorem b1e (v:V):J9 .jk v=true:=by cases v <;> rfl
theorem b8t (u:V):J9 u .jk=true:=by cases u <;> rfl
theorem a9s (k:Nat) (w:V):H1 k w=.jk∨((∀v,J9 w v=true→J9 (H1 k w) v=true)∧∀u,J9 u w=true→J9 u (H1 k w)=true):=by
 cases w with
 | own j =>
  have e2:H1 k (.own j)=match U7 j k with|true=>V.jk|false=>.own j:=rfl
  rw [e2]
  cases U7 j k
  ·exact .inr ⟨fun _ h=>h,fun _ h=>h⟩
  ·exact .inl rfl
 | el j i z o =>
  have e2:H1 k (.el j i z o)=match U7 j k with|true=>V.jk|false=>.el j i z o:=rfl
  rw [e2]
  cases U7 j k
  ·exact .inr ⟨fun _ h=>h,fun _ h=>h⟩
  ·exact .inl rfl
 | ag cs=>exact .inr ⟨fun v _=>by cases v <;> rfl,fun u _=>by cases u <;> rfl⟩
 | tu l =>
  cases l with
  | nil=>exact .inr ⟨fun _ h=>h,fun _ h=>h⟩
  | cons x l=>exact .inl rfl
 | _=>exact .inr ⟨fun _ h=>h,fun _ h=>h⟩
theorem b3N {kk:Option Nat} {u v:V} (h:J9 u v=true):J9 (klV kk u) (klV kk v)=true:=by
 cases kk with
 | none=>exact h
 | some k =>
  show J9 (H1 k u) (H1 k v)=true
  rcases a9s k u with e|h1
  ·rw [e];exact b1e _
  ·rcases a9s k v with e|h2
   ·rw [e];exact b8t _
   ·exact h1.1 _ (h2.2 _ h)
def PP (prs:List (Nat×Nat)) (s:S):Prop:=∀p∈prs,J9 (v7 s.t p.1) (v7 s.t p.2)=true
theorem c59:∀ {prs:List (Nat×Nat)} {s:S},b3I prs s.t=true→PP prs s
 | [],s,_,p,hp=>by simp at hp
 | (i,k)::l,s,h,p,hp=>by
  rw [b3I] at h
  split at h
  ·rename_i h1
   rcases d3d.1 hp with rfl|hp
   ·exact h1
   ·exact c59 (prs:=l) h p hp
  ·cases h
def c0P (prs:List (Nat×Nat)) (d:Option Nat):Prop:=∀p∈prs,d≠some p.1∧d≠some p.2
theorem b6N {kk:Option Nat} {l:List V} {i:Nat}:v7 (klT kk l) i=klV kk (v7 l i):=by
 cases kk with
 | none=>rfl
 | some k=>exact a1X
theorem PP.next {prs:List (Nat×Nat)} {s:S} (h:PP prs s) {kk:Option Nat} {d:Option Nat} {v:V} {o':List O} (hf:c0P prs d):PP prs (S.put ⟨klT kk s.t,o'⟩ d v):=fun p hp=>by
 have key:∀i,d≠some i→v7 (S.put ⟨klT kk s.t,o'⟩ d v).t i=klV kk (v7 s.t i):=fun i hi=>by
  cases d with
  | none=>exact b6N
  | some x =>
   show v7 (H0 (klT kk s.t) x v) i=_
   rw [a2Y (fun e=>hi (by rw [e])),b6N]
 rw [key _ (hf p hp).1,key _ (hf p hp).2]
 exact b3N (h p hp)
theorem a9t {s:S} {dst:Option Nat} {K:S→Prop} {op:Op} (hx:G4 f7 false s dst K op):G4 f7 false s dst (fun s'=>(∃kk v o',s'=S.put ⟨klT kk s.t,o'⟩ dst v)∧K s') op:=by
 have hC:∀ {v:V},∃kk u o',s.put dst v=S.put ⟨klT kk s.t,o'⟩ dst u:=fun {v}=>⟨none,v,s.o,rfl⟩
 have hO:∀ {o:O} {v:V},∃kk u o',(s.obj o).put dst v=S.put ⟨klT kk s.t,o'⟩ dst u:=fun {o v}=>⟨none,v,A1 s.o o,rfl⟩
 have hF:∀ {z:Bool} {e:Nat} {r:List (List D)} {v:V},∃kk u o',(s.fresh false (.row z e r)).put dst v=S.put ⟨klT kk s.t,o'⟩ dst u:=fun {z e r v}=>⟨some (r8 s.o),v,_,rfl⟩
 have calm:∀ {op:Op},I3 f7 s.get s.o (fun v=>K (s.put dst v)) op→I3 f7 s.get s.o (fun v=>(∃kk u o',s.put dst v=S.put ⟨klT kk s.t,o'⟩ dst u)∧K (s.put dst v)) op:=fun h=>by
  obtain ⟨v,h1,h2⟩:=a2X _ h
  exact h2 _ ⟨hC,h1⟩
 unfold G4 at hx ⊢
 split at hx
 ·split at hx
  ·exact ⟨hO,hx⟩
  ·exact hx.elim
 ·split at hx
  ·exact ⟨hO,hx⟩
  ·exact hx.elim
 ·split at hx
  ·obtain ⟨o',h1,h2⟩:=a7j hx
   exact h2 _ _ ⟨⟨none,.jk,o',rfl⟩,h1⟩
  ·exact hx.elim
 ·unfold a3Q at hx ⊢
  repeat' split at hx
  all_goals first|exact hx.elim|skip
  obtain ⟨h1,z,h2⟩:=hx
  exact ⟨h1,z,hO,h2⟩
 ·split at hx
  ·split at hx
   ·exact ⟨hO,hx⟩
   ·exact hx.elim
  ·exact hx.elim
 ·split at hx
  ·unfold c0e at hx ⊢
   repeat' split at hx
   all_goals first|exact hx.elim|exact ⟨⟨none,.jk,_,rfl⟩,hx⟩
  ·exact hx.elim
 ·split at hx
  ·obtain ⟨z,hx⟩:=hx
   exact ⟨z,hF,hx⟩
  ·exact hx.elim
 ·cases dst with
  | none =>
   unfold N5 at hx ⊢
   repeat' split at hx
   all_goals first|exact hx.elim|skip
   ·obtain ⟨h1,z,h2⟩:=hx
    exact ⟨h1,z,hF,h2⟩
   ·obtain ⟨h1,h2⟩:=hx
    exact ⟨h1,⟨some _,.jk,_,rfl⟩,h2⟩
  | some d =>
   obtain ⟨kk,o',k',h1,h2⟩:=b0Y hx
   exact h2 s.t _ ⟨⟨kk,_,o',rfl⟩,h1⟩
 ·exact calm hx
 ·exact calm hx
 ·exact calm hx
 ·exact calm hx
theorem a0T {s:S} {dst:Option Nat} {K K':S→Prop} {op:Op} (hK:∀s,K s→K' s) (hx:G4 f7 false s dst K op):G4 f7 false s dst K' op:=by
 have calm:∀ {op:Op},I3 f7 s.get s.o (fun v=>K (s.put dst v)) op→I3 f7 s.get s.o (fun v=>K' (s.put dst v)) op:=fun h=>by
  obtain ⟨v,h1,h2⟩:=a2X _ h
  exact h2 _ (hK _ h1)
 unfold G4 at hx ⊢
 split at hx
 ·split at hx
  ·exact hK _ hx
  ·exact hx.elim
 ·split at hx
  ·exact hK _ hx
  ·exact hx.elim
 ·split at hx
  ·obtain ⟨o',h1,h2⟩:=a7j hx
   exact h2 _ _ (hK _ h1)
  ·exact hx.elim
 ·unfold a3Q at hx ⊢
  repeat' split at hx
  all_goals first|exact hx.elim|skip
  obtain ⟨h1,z,h2⟩:=hx
  exact ⟨h1,z,hK _ h2⟩
 ·split at hx
  ·split at hx
   ·exact hK _ hx
   ·exact hx.elim
  ·exact hx.elim
 ·split at hx
  ·unfold c0e at hx ⊢
   repeat' split at hx
   all_goals first|exact hx.elim|exact hK _ hx
  ·exact hx.elim
 ·split at hx
  ·obtain ⟨z,hx⟩:=hx
   exact ⟨z,hK _ hx⟩
  ·exact hx.elim
 ·unfold N5 at hx ⊢
  repeat' split at hx
  all_goals first|exact hx.elim|skip
  ·obtain ⟨h1,z,h2⟩:=hx
   exact ⟨h1,z,hK _ h2⟩
  ·obtain ⟨h1,h2⟩:=hx
   exact ⟨h1,hK _ h2⟩
 ·exact calm hx
 ·exact calm hx
 ·exact calm hx
 ·exact calm hx
theorem b55 {dsts:List (Option Nat)} {prs:List (Nat×Nat)} {o:Oper} {s:S} {K:S→Prop} (hP:PP prs s) (hf:c0P prs o.dst) (h:o4 f7 dsts o s K):o4 f7 dsts o s (fun s'=>PP prs s'∧K s'):=by
 obtain ⟨dst,op,type,pos,after,gd⟩:=o
 have hst:∀ {K:S→Prop},G4 f7 false s dst K op→G4 f7 false s dst (fun s'=>PP prs s'∧K s') op:=fun {K} h=>by
  have h1:=a9t h
  exact a0T (fun s' ⟨⟨kk,v,o',e⟩,hk⟩=>⟨by rw [e];exact hP.next hf,hk⟩) h1
 cases gd with
 | none=>exact hst h
 | some jb =>
  obtain ⟨j,b⟩:=jb
  have h':guard s dsts j (fun
   | some c=>match bEq c b with
    | true=>G4 f7 false s dst K op
    | false=>K (s.put dst vun)
   | none=>K (s.put dst vun)):=h
  obtain ⟨c,h1,h2⟩:=a2h h'
  have hv:PP prs (s.put dst vun):=hP.next (kk:=none) (o':=s.o) hf
  show guard s dsts j (fun
   | some c=>match bEq c b with
    | true=>G4 f7 false s dst (fun s'=>PP prs s'∧K s') op
    | false=>PP prs (s.put dst vun)∧K (s.put dst vun)
   | none=>PP prs (s.put dst vun)∧K (s.put dst vun))
  refine h2 _ ?_
  cases c with
  | none=>exact ⟨hv,h1⟩
  | some c =>
   simp only at h1 ⊢
   cases hb:bEq c b with
   | true=>rw [hb] at h1;exact hst h1
   | false=>rw [hb] at h1;exact ⟨hv,h1⟩
def a9u (prs:List (Nat×Nat)) (o:Oper):Prop:=∀p∈prs,o.dst≠some p.2∧(o.dst=some p.1→∃j,Z1 o.op=some j∧(j,p.2)∈prs)
theorem c0Q {prs:List (Nat×Nat)} {o:Oper} (h:c0B prs o=true):a9u prs o:=fun p hp=>by
 unfold c0B at h
 cases hd:o.dst with
 | none=>exact ⟨by simp,fun e=>by cases e⟩
 | some d =>
  rw [hd] at h
  have h1:=d3z.1 h p hp
  rw [d2Z,d36,a3w,a3w] at h1
  refine ⟨fun e=>?_,fun e=>?_⟩
  ·have e:=Option.some.inj e
   rw [F5.2 e] at h1
   exact absurd h1.1 (by simp)
  ·have e:=Option.some.inj e
   rcases h1.2 with h2|h2
   ·rw [F5.2 e] at h2
    exact absurd h2 (by simp)
   ·split at h2
    ·rename_i j hj
     exact ⟨j,hj,by simpa using h2⟩
    ·cases h2
theorem b8u {s:S} {dst:Option Nat} {K:S→Prop} {op:Op} {j:Nat} (ha:Z1 op=some j) (h:G4 f7 false s dst K op):∃v,K (s.put dst v)∧(∀u,J9 (v7 s.t j) u=true→J9 v u=true)∧∀K':S→Prop,K' (s.put dst v)→G4 f7 false s dst K' op:=by
 have hc:a6j op=true:=by
  unfold Z1 at ha
  split at ha <;> first|rfl|cases ha
 rw [J6 hc] at h
 have hs:∀ {K':S→Prop} {v:V},I3 f7 s.get s.o (fun v=>K' (s.put dst v)) op→G4 f7 false s dst K' op:=fun {K' v} hk=>by rw [J6 hc];exact hk
 unfold Z1 at ha
 split at ha <;> try cases ha
 ·have h:K (s.put dst (v7 s.t j)):=h
  exact ⟨_,h,fun u hu=>hu,fun K' hk=>hs (v:=.jk) (show K' (s.put dst (v7 s.t j)) from hk)⟩
 ·have h:nnV (fun v=>K (s.put dst v)) (v7 s.t j):=h
  refine ⟨v7 s.t j,?_,fun u hu=>hu,fun K' hk=>hs (v:=.jk) ?_⟩
  ·revert h;cases v7 s.t j <;> intro h <;> first|exact h|exact h.elim
  ·show nnV (fun v=>K' (s.put dst v)) (v7 s.t j)
   revert h hk;cases v7 s.t j <;> intro h hk <;> first|exact hk|exact h.elim
 ·rename_i _ t i
  have h:Z8 (fun v=>K (s.put dst v)) t i (v7 s.t j):=h
  have key:∃v,K (s.put dst v)∧(∀u,J9 (v7 s.t j) u=true→J9 v u=true)∧∀K':S→Prop,K' (s.put dst v)→Z8 (fun v=>K' (s.put dst v)) t i (v7 s.t j):=by
   generalize v7 s.t j=x at *
   simp only [Z8] at h ⊢
   split at h <;> try exact h.elim
   rename_i hf
   cases x <;> try exact h.elim
   ·exact ⟨_,h,fun u hu=>by cases u <;> first|rfl|exact hu,fun K' hk=>hk⟩
   ·exact ⟨_,h,fun u hu=>by cases u <;> first|rfl|exact hu,fun K' hk=>hk⟩
   ·exact ⟨_,h,fun u hu=>by cases u <;> first|rfl|exact hu,fun K' hk=>hk⟩
  obtain ⟨v,h1,h2,h3⟩:=key
  exact ⟨v,h1,h2,fun K' hk=>hs (v:=.jk) (h3 K' hk)⟩
 ·rename_i _ t i
  have h:B6 f7 s.o (fun v=>K (s.put dst v)) t (v7 s.t j) (s.get i):=h
  have key:∃v,K (s.put dst v)∧(∀u,J9 (v7 s.t j) u=true→J9 v u=true)∧∀K':S→Prop,K' (s.put dst v)→B6 f7 s.o (fun v=>K' (s.put dst v)) t (v7 s.t j) (s.get i):=by
   generalize v7 s.t j=x at *
   generalize s.get i=y at *
   simp only [B6] at h ⊢
   split at h <;> try exact h.elim
   split at h
   ·split at h <;> try exact h.elim
    split at h <;> try exact h.elim
    cases x <;> try exact h.elim
    ·exact ⟨_,h,fun u hu=>by cases u <;> first|rfl|exact hu,fun K' hk=>by first|(simp only [*,a02];done)|(simp only [*,a02];exact hk)⟩
    ·exact ⟨_,h,fun u hu=>by cases u <;> first|rfl|exact hu,fun K' hk=>by first|(simp only [*,a02];done)|(simp only [*,a02];exact hk)⟩
    ·exact ⟨_,h,fun u hu=>by cases u <;> first|rfl|exact hu,fun K' hk=>by first|(simp only [*,a02];done)|(simp only [*,a02];exact hk)⟩
   ·split at h <;> try exact h.elim
    rename_i e he
    split at h
    ·rename_i k m hb
     split at h <;> try exact h.elim
     rename_i j' hj
     obtain ⟨k',n',rfl⟩:∃k' n',x=.bs k' n':=by
      cases x <;> first|exact ⟨_,_,rfl⟩|cases hb
     cases hb
     exact ⟨_,h,fun u hu=>by cases u <;> first|rfl|exact hu,fun K' hk=>by first|(simp only [*,bsV];done)|(simp only [*,bsV];exact hk)⟩
    ·rename_i hb
     split at h
     ·rename_i k e' rows hr
      split at h <;> try exact h.elim
      rename_i he'
      split at h <;> try exact h.elim
      rename_i row hrow
      obtain rfl:x=.own k:=by
       unfold a8d at hr
       split at hr
       ·split at hr
        ·cases hr;rfl
        ·cases hr
       ·cases hr
      exact ⟨_,h,fun u hu=>by cases u <;> first|rfl|exact hu,fun K' hk=>by first|(simp only [*];done)|(simp only [*];exact hk)⟩
     ·rename_i hr
      split at h <;> try exact h.elim
      rename_i sz rows hrw
      split at h <;> try exact h.elim
      rename_i hsz
      split at h <;> try exact h.elim
      rename_i row hrow
      exact ⟨_,h,fun u hu=>rfl,fun K' hk=>by first|(simp only [*];done)|(simp only [*];exact hk)⟩
  obtain ⟨v,h1,h2,h3⟩:=key
  exact ⟨v,h1,h2,fun K' hk=>hs (v:=.jk) (h3 K' hk)⟩
theorem a2C {v:V}:∀ {l:List V} {i:Nat},v7 (H0 l i v) i=v∨v7 (H0 l i v) i=.jk
 | [],i=>.inr rfl
 | x::l,0=>.inl rfl
 | x::l,i+1=>by rw [H0,v7];exact a2C
theorem PP.chain {prs:List (Nat×Nat)} {s:S} (h:PP prs s) {d:Option Nat} {v:V} (hv:∀p∈prs,d≠some p.2∧(d=some p.1→J9 v (v7 s.t p.2)=true)):PP prs (s.put d v):=fun p hp=>by
 have key:∀i,d≠some i→v7 (s.put d v).t i=v7 s.t i:=fun i hi=>by
  cases d with
  | none=>rfl
  | some x =>
   show v7 (H0 s.t x v) i=_
   rw [a2Y (fun e=>hi (by rw [e]))]
 obtain ⟨h1,h2⟩:=hv p hp
 rw [key _ h1]
 by_cases e:d=some p.1
 ·have h3:=h2 e
  subst e
  show J9 (v7 (H0 s.t p.1 v) p.1) _=true
  rcases a2C (v:=v) (l:=s.t) (i:=p.1) with h4|h4
  ·rw [h4];exact h3
  ·rw [h4];exact b1e _
 ·rw [key _ e]
  exact h p hp
theorem a6q {prs:List (Nat×Nat)} {o:Oper} (h:a9u prs o) (hn:Z1 o.op=none):c0P prs o.dst:=fun p hp=>by
 obtain ⟨h1,h2⟩:=h p hp
 refine ⟨fun e=>?_,h1⟩
 obtain ⟨j,hj,_⟩:=h2 e
 rw [hn] at hj
 cases hj
theorem b8v {prs:List (Nat×Nat)} {s:S} {dst:Option Nat} {K:S→Prop} {op:Op} {j:Nat} (ha:Z1 op=some j) (hP:PP prs s) (hk:∀p∈prs,dst≠some p.2∧(dst=some p.1→∃j,Z1 op=some j∧(j,p.2)∈prs)) (h:G4 f7 false s dst K op):G4 f7 false s dst (fun s'=>PP prs s'∧K s') op:=by
 obtain ⟨v,h1,h2,h3⟩:=b8u ha h
 refine h3 _ ⟨hP.chain fun p hp=>⟨(hk p hp).1,fun e=>?_⟩,h1⟩
 obtain ⟨j',hj,hm⟩:=(hk p hp).2 e
 rw [ha] at hj
 cases hj
 exact h2 _ (hP _ hm)
theorem c0R {prs:List (Nat×Nat)} {s:S} {dst:Option Nat} {op:Op} (hP:PP prs s) (hk:∀p∈prs,dst≠some p.2∧(dst=some p.1→∃j,Z1 op=some j∧(j,p.2)∈prs)):PP prs (s.put dst vun):=hP.chain fun p hp=>⟨(hk p hp).1,fun _=>rfl⟩
theorem a4e {dsts:List (Option Nat)} {prs:List (Nat×Nat)} {o:Oper} {s:S} {K:S→Prop} (hP:PP prs s) (hk:a9u prs o) (h:o4 f7 dsts o s K):o4 f7 dsts o s (fun s'=>PP prs s'∧K s'):=by
 cases ha:Z1 o.op with
 | none=>exact b55 hP (a6q hk ha) h
 | some j =>
  obtain ⟨dst,op,type,pos,after,gd⟩:=o
  simp only at ha
  have hst:∀ {K:S→Prop},G4 f7 false s dst K op→G4 f7 false s dst (fun s'=>PP prs s'∧K s') op:=fun {K} h=>b8v ha hP hk h
  cases gd with
  | none=>exact hst h
  | some jb =>
   obtain ⟨j,b⟩:=jb
   have h':guard s dsts j (fun
    | some c=>match bEq c b with
     | true=>G4 f7 false s dst K op
     | false=>K (s.put dst vun)
    | none=>K (s.put dst vun)):=h
   obtain ⟨c,h1,h2⟩:=a2h h'
   have hv:PP prs (s.put dst vun):=c0R (op:=op) hP hk
   show guard s dsts j (fun
    | some c=>match bEq c b with
     | true=>G4 f7 false s dst (fun s'=>PP prs s'∧K s') op
     | false=>PP prs (s.put dst vun)∧K (s.put dst vun)
    | none=>PP prs (s.put dst vun)∧K (s.put dst vun))
   refine h2 _ ?_
   cases c with
   | none=>exact ⟨hv,h1⟩
   | some c =>
    simp only at h1 ⊢
    cases hb:bEq c b with
    | true=>rw [hb] at h1;exact hst h1
    | false=>rw [hb] at h1;exact ⟨hv,h1⟩
def a7m (dsts:List (Option Nat)) (prs:List (Nat×Nat)) (x y:Oper):Bool:=match b2q x,a9g dsts y with
 | some i,some k=>prs.contains (i,k) && Q6 x.dst (A3 dsts y)
 | _,_=>false
theorem b1f {x:Oper} {i:Nat} (h:b2q x=some i):∃d t ty p a,x=⟨d,.load t (.tmp i),ty,p,a,none⟩:=by
 unfold b2q at h
 split at h
 ·have h:=Option.some.inj h
  subst h
  exact ⟨_,_,_,_,_,rfl⟩
 ·cases h
theorem a4H {dsts:List (Option Nat)} {y:Oper} {k:Nat} (h:a9g dsts y=some k):∃t z ty p a,y=⟨none,.store t (.tmp k) z,ty,p,a,none⟩:=by
 unfold a9g at h
 split at h
 ·split at h
  ·cases h
  ·have h:=Option.some.inj h
   subst h
   exact ⟨_,_,_,_,_,rfl⟩
 ·cases h
theorem a4f {o:O}:∀ {l:List O} {m j:Nat},j≠m→A9 (J5 l m o) j=A9 l j
 | [],m,j,_=>rfl
 | x::l,0,0,h=>absurd rfl h
 | x::l,0,j+1,_=>rfl
 | x::l,m+1,0,_=>rfl
 | x::l,m+1,j+1,h=>by rw [J5,A9,A9,a4f (fun e=>h (by rw [e]))]
theorem a1m {o:O}:∀ {l:List O} {m:Nat},A9 l m≠.dead→A9 (J5 l m o) m=o
 | [],m,h=>absurd rfl h
 | x::l,0,_=>rfl
 | x::l,m+1,h=>by rw [J5,A9];rw [A9] at h;exact a1m h
theorem a20 {s:S} {K:S→Prop} {t:Nat} {y x:V} (h:N9 f7 s K t y x):∃m b,((∃off cs cs',x=.ptr m off∧A9 s.o m=.box cs∧b=.box cs')∨(∃i z off e rows rows',x=.el m i z off∧A9 s.o m=.row false e rows∧b=.row false e rows'))∧K ⟨s.t,J5 s.o m b⟩∧∀(t':List V) (K':S→Prop),K' ⟨t',J5 s.o m b⟩→N9 f7 ⟨t',s.o⟩ K' t y x:=by
 unfold N9 at h
 split at h <;> try exact h.elim
 ·rename_i k off
  split at h <;> try exact h.elim
  rename_i cs hok
  split at h <;> try exact h.elim
  rename_i l hl
  split at h <;> try exact h.elim
  rename_i hsz
  split at h <;> try exact h.elim
  rename_i cs' hcs
  refine ⟨k,_,.inl ⟨off,cs,cs',rfl,hok,rfl⟩,h,fun t' K' hk=>?_⟩
  unfold N9
  simp only [hok,hl,hsz,hcs]
  exact hk
 ·rename_i k i sz off
  split at h <;> try exact h.elim
  rename_i e rows hok
  split at h <;> try exact h.elim
  rename_i hsz
  split at h <;> try exact h.elim
  rename_i row hrow
  split at h <;> try exact h.elim
  rename_i l hl
  split at h <;> try exact h.elim
  rename_i ds hds
  split at h <;> try exact h.elim
  rename_i hlen
  split at h <;> try exact h.elim
  rename_i row' hrow'
  refine ⟨k,_,.inr ⟨i,sz,off,e,rows,_,rfl,hok,rfl⟩,h,fun t' K' hk=>?_⟩
  unfold N9
  simp only [hok,hsz,hrow,hl,hds,hlen,hrow']
  exact hk
theorem a9v {os os':List O} {K:V→Prop} {t:Nat} {x:V} (hx:∀j,((∃o,x=.ptr j o)∨∃i z o,x=.el j i z o)→A9 os' j=A9 os j):J8 f7 os K t x=J8 f7 os' K t x:=by
 cases x <;> try rfl
 case ptr k off=>simp only [J8,hx k (.inl ⟨off,rfl⟩)]
 case el k i z off=>simp only [J8,hx k (.inr ⟨i,z,off,rfl⟩)]
theorem b1g {os:List O} {K:V→Prop} {t:Nat} {x:V} (h:J8 f7 os K t x):(∀j o,x=.ptr j o→∃cs,A9 os j=.box cs)∧∀j i z o,x=.el j i z o→∃zz e rows,A9 os j=.row zz e rows:=by
 refine ⟨fun j o e=>?_,fun j i z o e=>?_⟩
 ·subst e
  simp only [J8] at h
  split at h <;> first|exact ⟨_,by assumption⟩|exact h.elim
 ·subst e
  simp only [J8] at h
  split at h <;> first|exact ⟨_,_,_,by assumption⟩|exact h.elim
theorem c8S {dsts:List (Option Nat)} {prs:List (Nat×Nat)} {x y:Oper} (h:a7m dsts prs x y=true) {s:S} (hP:PP prs s) {K:S→Prop} (hx:o4 f7 dsts x s fun s=>o4 f7 dsts y s K):o4 f7 dsts y s fun s=>o4 f7 dsts x s K:=by
 unfold a7m at h
 split at h <;> try cases h
 rename_i i k hi hk
 obtain ⟨d,t,ty1,p1,a1,rfl⟩:=b1f hi
 obtain ⟨t2,z,ty2,p2,a2,rfl⟩:=a4H hk
 simp only [d2Z,d3Y] at h
 have hd:=hP _ h.1
 have hx':J8 f7 s.o (fun v=>o4 f7 dsts ⟨none,.store t2 (.tmp k) z,ty2,p2,a2,none⟩ (s.put d v) K) t (v7 s.t i):=hx
 have hlive:=b1g hx'
 obtain ⟨v,h1,h2⟩:=a8r _ hx'
 have hs:a3a (A3 dsts ⟨none,.store t2 (.tmp k) z,ty2,p2,a2,none⟩) s (s.put d v):=P1 (M2 h.2)
 have hops:=hs.ops (xs:=[.tmp k,z]) fun t ht=>by simp [A3,Op.operands];simpa using ht
 have h3:N9 f7 (s.put d v) K t2 ((s.put d v).get z) ((s.put d v).get (.tmp k)):=h1
 rw [hops z (by simp),hops (.tmp k) (by simp)] at h3
 obtain ⟨m,b,hsh,h4,h5⟩:=a20 h3
 rw [a5g] at h4 h5 hsh
 have e0:s=⟨s.t,s.o⟩:=rfl
 show N9 f7 s (fun s=>o4 f7 dsts ⟨d,.load t (.tmp i),ty1,p1,a1,none⟩ s K) t2 (s.get z) (s.get (.tmp k))
 rw [e0]
 have h5:=h5 s.t (fun s=>o4 f7 dsts ⟨d,.load t (.tmp i),ty1,p1,a1,none⟩ s K) ?_
 ·have e1:(⟨s.t,(s.put d v).o⟩:S)=s:=by rw [a5g]
  exact e1 ▸ h5
 show J8 f7 (J5 s.o m b) (fun v=>K (S.put ⟨s.t,J5 s.o m b⟩ d v)) t (v7 s.t i)
 rw [←a9v (os:=s.o) (fun j hj=>?_)]
 ·refine h2 _ ?_
  rw [←a1l s.t s.o]
  exact h4
 ·refine a4f fun e=>?_
  subst e
  have hd':J9 (v7 s.t i) (s.get (.tmp k))=true:=hd
  rcases hsh with ⟨off,cs,cs',hy,ho,_⟩|⟨i',z',off,e,rows,rows',hy,ho,_⟩
  ·rw [hy] at hd'
   rcases hj with ⟨o,hj⟩|⟨i2,z2,o,hj⟩
   ·rw [hj] at hd'
    simp only [J9] at hd'
    rw [F5.2 rfl] at hd'
    cases hd'
   ·obtain ⟨zz,e',rows,he⟩:=hlive.2 _ _ _ _ hj
    rw [ho] at he
    cases he
  ·rw [hy] at hd'
   rcases hj with ⟨o,hj⟩|⟨i2,z2,o,hj⟩
   ·obtain ⟨cs,he⟩:=hlive.1 _ _ hj
    rw [ho] at he
    cases he
   ·rw [hj] at hd'
    simp only [J9] at hd'
    rw [F5.2 rfl] at hd'
    cases hd'
theorem c8T {dsts:List (Option Nat)} {prs:List (Nat×Nat)} {x y:Oper} (h:a7m dsts prs x y=true) {s:S} (hP:PP prs s) {K:S→Prop} (hy:o4 f7 dsts y s fun s=>o4 f7 dsts x s K):o4 f7 dsts x s fun s=>o4 f7 dsts y s K:=by
 unfold a7m at h
 split at h <;> try cases h
 rename_i i k hi hk
 obtain ⟨d,t,ty1,p1,a1,rfl⟩:=b1f hi
 obtain ⟨t2,z,ty2,p2,a2,rfl⟩:=a4H hk
 simp only [d2Z,d3Y] at h
 have hd:J9 (v7 s.t i) (s.get (.tmp k))=true:=hP _ h.1
 have hy':N9 f7 s (fun s=>o4 f7 dsts ⟨d,.load t (.tmp i),ty1,p1,a1,none⟩ s K) t2 (s.get z) (s.get (.tmp k)):=hy
 obtain ⟨m,b,hsh,h4,h5⟩:=a20 hy'
 have h4:J8 f7 (J5 s.o m b) (fun v=>K (S.put ⟨s.t,J5 s.o m b⟩ d v)) t (v7 s.t i):=h4
 have hlive:=b1g h4
 rw [←a9v (os:=s.o) (fun j hj=>?_)] at h4
 ·obtain ⟨v,h6,h7⟩:=a8r _ h4
  show J8 f7 s.o (fun v=>o4 f7 dsts ⟨none,.store t2 (.tmp k) z,ty2,p2,a2,none⟩ (s.put d v) K) t (v7 s.t i)
  refine h7 _ ?_
  have hs:a3a (A3 dsts ⟨none,.store t2 (.tmp k) z,ty2,p2,a2,none⟩) s (s.put d v):=P1 (M2 h.2)
  have hops:=hs.ops (xs:=[.tmp k,z]) fun t ht=>by simp [A3,Op.operands];simpa using ht
  show N9 f7 (s.put d v) K t2 ((s.put d v).get z) ((s.put d v).get (.tmp k))
  rw [hops z (by simp),hops (.tmp k) (by simp)]
  have e1:s.put d v=⟨(s.put d v).t,s.o⟩:=by cases d <;> rfl
  rw [e1]
  refine h5 _ _ ?_
  rw [←a1l s.t s.o] at h6
  exact h6
 ·refine a4f fun e=>?_
  subst e
  rcases hsh with ⟨off,cs,cs',hy,ho,hb⟩|⟨i',z',off,e,rows,rows',hy,ho,hb⟩
  ·rw [hy] at hd
   rcases hj with ⟨o,hj⟩|⟨i2,z2,o,hj⟩
   ·rw [hj] at hd
    simp only [J9] at hd
    rw [F5.2 rfl] at hd
    cases hd
   ·obtain ⟨zz,e',rows,he⟩:=hlive.2 _ _ _ _ hj
    rw [a1m (by rw [ho];simp),hb] at he
    cases he
  ·rw [hy] at hd
   rcases hj with ⟨o,hj⟩|⟨i2,z2,o,hj⟩
   ·obtain ⟨cs,he⟩:=hlive.1 _ _ hj
    rw [a1m (by rw [ho];simp),hb] at he
    cases he
   ·rw [hj] at hd
    simp only [J9] at hd
    rw [F5.2 rfl] at hd
    cases hd
def b56:Oper→Option Nat
 | ⟨_,.indexAddr _ (.tmp i) _,_,_,_,none⟩=>some i
 | _=>none
theorem b1h {x:Oper} {i:Nat} (h:b56 x=some i):∃d t y ty p a,x=⟨d,.indexAddr t (.tmp i) y,ty,p,a,none⟩:=by
 unfold b56 at h
 split at h
 ·have h:=Option.some.inj h
  subst h
  exact ⟨_,_,_,_,_,_,rfl⟩
 ·cases h
def a7n (dsts:List (Option Nat)) (prs:List (Nat×Nat)) (x y:Oper):Bool:=match b56 x,a9g dsts y with
 | some i,some k=>prs.contains (i,k) && Q6 x.dst (A3 dsts y)
 | _,_=>false
theorem c0S {os os':List O} {K:V→Prop} {t:Nat} {x y:V} (hx:∀j,x=.own j→A9 os' j=A9 os j):B6 f7 os K t x y=B6 f7 os' K t x y:=by
 have e1:a8d os' x=a8d os x:=by cases x <;> first|rfl|simp only [a8d,hx _ rfl]
 have e2:U0 os' x=U0 os x:=by cases x with|d x=>cases x <;> rfl|own j=>simp only [U0,hx j rfl]|_=>rfl
 unfold B6
 rw [e1,e2]
theorem b6O {os:List O} {K:V→Prop} {t:Nat} {x y:V} (h:B6 f7 os K t x y):∀j,x=.own j→∃zz e rows,A9 os j=.row zz e rows:=by
 intro j e
 subst e
 cases ho:A9 os j with
 | row z e rows=>exact ⟨_,_,_,rfl⟩
 | _ =>
  exfalso
  simp only [B6,a02,bsV,a8d,U0,ho] at h
  repeat' split at h
  all_goals first|exact h|skip
theorem c8U {dsts:List (Option Nat)} {prs:List (Nat×Nat)} {x y:Oper} (h:a7n dsts prs x y=true) {s:S} (hP:PP prs s) {K:S→Prop} (hx:o4 f7 dsts x s fun s=>o4 f7 dsts y s K):o4 f7 dsts y s fun s=>o4 f7 dsts x s K:=by
 unfold a7n at h
 split at h <;> try cases h
 rename_i i k hi hk
 obtain ⟨d,t,zi,ty1,p1,a1,rfl⟩:=b1h hi
 obtain ⟨t2,z,ty2,p2,a2,rfl⟩:=a4H hk
 simp only [d2Z,d3Y] at h
 have hd:=hP _ h.1
 have hx':B6 f7 s.o (fun v=>o4 f7 dsts ⟨none,.store t2 (.tmp k) z,ty2,p2,a2,none⟩ (s.put d v) K) t (v7 s.t i) (s.get zi):=hx
 have hlive:=b6O hx'
 obtain ⟨v,h1,h2⟩:=a9j _ hx'
 have hs:a3a (A3 dsts ⟨none,.store t2 (.tmp k) z,ty2,p2,a2,none⟩) s (s.put d v):=P1 (M2 h.2)
 have hops:=hs.ops (xs:=[.tmp k,z]) fun t ht=>by simp [A3,Op.operands];simpa using ht
 have h3:N9 f7 (s.put d v) K t2 ((s.put d v).get z) ((s.put d v).get (.tmp k)):=h1
 rw [hops z (by simp),hops (.tmp k) (by simp)] at h3
 obtain ⟨m,b,hsh,h4,h5⟩:=a20 h3
 rw [a5g] at h4 h5 hsh
 have e0:s=⟨s.t,s.o⟩:=rfl
 show N9 f7 s (fun s=>o4 f7 dsts ⟨d,.indexAddr t (.tmp i) zi,ty1,p1,a1,none⟩ s K) t2 (s.get z) (s.get (.tmp k))
 rw [e0]
 have h5:=h5 s.t (fun s=>o4 f7 dsts ⟨d,.indexAddr t (.tmp i) zi,ty1,p1,a1,none⟩ s K) ?_
 ·have e1:(⟨s.t,(s.put d v).o⟩:S)=s:=by rw [a5g]
  exact e1 ▸ h5
 show B6 f7 (J5 s.o m b) (fun v=>K (S.put ⟨s.t,J5 s.o m b⟩ d v)) t (v7 s.t i) (S.get ⟨s.t,J5 s.o m b⟩ zi)
 rw [show S.get ⟨s.t,J5 s.o m b⟩ zi=s.get zi by cases zi <;> rfl,←c0S (os:=s.o) (fun j hj=>?_)]
 ·refine h2 _ ?_
  rw [←a1l s.t s.o]
  exact h4
 ·refine a4f fun e=>?_
  subst e
  have hd':J9 (v7 s.t i) (s.get (.tmp k))=true:=hd
  obtain ⟨zz,e',rows,he⟩:=hlive _ hj
  rcases hsh with ⟨off,cs,cs',hy,ho,_⟩|⟨i',z',off,e,rows,rows',hy,ho,_⟩
  ·rw [ho] at he
   cases he
  ·rw [hy,hj] at hd'
   simp only [J9] at hd'
   rw [F5.2 rfl] at hd'
   cases hd'
theorem c8V {dsts:List (Option Nat)} {prs:List (Nat×Nat)} {x y:Oper} (h:a7n dsts prs x y=true) {s:S} (hP:PP prs s) {K:S→Prop} (hy:o4 f7 dsts y s fun s=>o4 f7 dsts x s K):o4 f7 dsts x s fun s=>o4 f7 dsts y s K:=by
 unfold a7n at h
 split at h <;> try cases h
 rename_i i k hi hk
 obtain ⟨d,t,zi,ty1,p1,a1,rfl⟩:=b1h hi
 obtain ⟨t2,z,ty2,p2,a2,rfl⟩:=a4H hk
 simp only [d2Z,d3Y] at h
 have hd:J9 (v7 s.t i) (s.get (.tmp k))=true:=hP _ h.1
 have hy':N9 f7 s (fun s=>o4 f7 dsts ⟨d,.indexAddr t (.tmp i) zi,ty1,p1,a1,none⟩ s K) t2 (s.get z) (s.get (.tmp k)):=hy
 obtain ⟨m,b,hsh,h4,h5⟩:=a20 hy'
 have h4:B6 f7 (J5 s.o m b) (fun v=>K (S.put ⟨s.t,J5 s.o m b⟩ d v)) t (v7 s.t i) (S.get ⟨s.t,J5 s.o m b⟩ zi):=h4
 rw [show S.get ⟨s.t,J5 s.o m b⟩ zi=s.get zi by cases zi <;> rfl] at h4
 have hlive:=b6O h4
 rw [←c0S (os:=s.o) (fun j hj=>?_)] at h4
 ·obtain ⟨v,h6,h7⟩:=a9j _ h4
  show B6 f7 s.o (fun v=>o4 f7 dsts ⟨none,.store t2 (.tmp k) z,ty2,p2,a2,none⟩ (s.put d v) K) t (v7 s.t i) (s.get zi)
  refine h7 _ ?_
  have hs:a3a (A3 dsts ⟨none,.store t2 (.tmp k) z,ty2,p2,a2,none⟩) s (s.put d v):=P1 (M2 h.2)
  have hops:=hs.ops (xs:=[.tmp k,z]) fun t ht=>by simp [A3,Op.operands];simpa using ht
  show N9 f7 (s.put d v) K t2 ((s.put d v).get z) ((s.put d v).get (.tmp k))
  rw [hops z (by simp),hops (.tmp k) (by simp)]
  have e1:s.put d v=⟨(s.put d v).t,s.o⟩:=by cases d <;> rfl
  rw [e1]
  refine h5 _ _ ?_
  rw [←a1l s.t s.o] at h6
  exact h6
 ·refine a4f fun e=>?_
  subst e
  obtain ⟨zz,e',rows,he⟩:=hlive _ hj
  rcases hsh with ⟨off,cs,cs',hy,ho,hb⟩|⟨i',z',off,e,rows,rows',hy,ho,hb⟩
  ·rw [a1m (by rw [ho];simp),hb] at he
   cases he
  ·rw [hy,hj] at hd
   simp only [J9] at hd
   rw [F5.2 rfl] at hd
   cases hd
def a50 (dsts:List (Option Nat)) (prs:List (Nat×Nat)) (x y:Oper):Bool:=c0M dsts x y || a7m dsts prs x y || a7m dsts prs y x || a7n dsts prs x y || a7n dsts prs y x
theorem c5A {dsts:List (Option Nat)} {prs:List (Nat×Nat)} {x y:Oper} (h:a50 dsts prs x y=true) {s:S} (hP:PP prs s) {K:S→Prop} (hx:o4 f7 dsts x s fun s=>o4 f7 dsts y s K):o4 f7 dsts y s fun s=>o4 f7 dsts x s K:=by
 simp only [a50,d36] at h
 rcases h with (((h|h)|h)|h)|h
 ·exact c8R h hx
 ·exact c8S h hP hx
 ·exact c8T h hP hx
 ·exact c8U h hP hx
 ·exact c8V h hP hx
theorem a1z {dsts:List (Option Nat)} {o:Oper} {s:S} {K K':S→Prop} (hK:∀s,K s→K' s) (h:o4 f7 dsts o s K):o4 f7 dsts o s K':=by
 obtain ⟨dst,op,type,pos,after,gd⟩:=o
 cases gd with
 | none=>exact a0T hK h
 | some jb =>
  obtain ⟨j,b⟩:=jb
  have h':guard s dsts j (fun
   | some c=>match bEq c b with
    | true=>G4 f7 false s dst K op
    | false=>K (s.put dst vun)
   | none=>K (s.put dst vun)):=h
  obtain ⟨c,h1,h2⟩:=a2h h'
  show guard s dsts j (fun
   | some c=>match bEq c b with
    | true=>G4 f7 false s dst K' op
    | false=>K' (s.put dst vun)
   | none=>K' (s.put dst vun))
  refine h2 _ ?_
  cases c with
  | none=>exact hK _ h1
  | some c =>
   simp only at h1 ⊢
   cases hb:bEq c b with
   | true=>rw [hb] at h1;exact a0T hK h1
   | false=>rw [hb] at h1;exact hK _ h1
def a9w (all:List Oper) (i:Nat):Prop:=a7G all i=false∧a3y all i=none
theorem a3b {dsts:List (Option Nat)} {all:List Oper} {i:Nat} (h:a9w all i) (o:Oper) (s:S) (K:S→Prop):a04 f7 dsts all i o s K=o4 f7 dsts o s K:=by
 have hst:∀(s:S) (dst:Option Nat) (K:S→Prop) (op:Op),a0r f7 all i s dst K op=G4 f7 false s dst K op:=fun s dst K op=>by
  unfold a0r
  split
  ·split
   ·rw [h.1,h.2]
   ·rfl
  ·rfl
 obtain ⟨dst,op,type,pos,after,gd⟩:=o
 cases gd with
 | none=>exact hst s dst K op
 | some jb =>
  obtain ⟨j,b⟩:=jb
  unfold a04
  simp only [hst]
  rfl
def a1D (dsts:List (Option Nat)) (all:List Oper):List Nat→S→(S→Prop)→Prop
 | [],s,K=>K s
 | i::l,s,K=>match all[i]? with
  | some o=>a04 f7 dsts all i o s (fun s=>a1D dsts all l s K)
  | none=>a1D dsts all l s K
theorem a6r {dsts:List (Option Nat)} {all:List Oper}:∀(l:List Oper) (i:Nat) (s:S) (K:S→Prop),all.drop i=l→c0C f7 dsts all i l s K→a1D dsts all (List.range' i l.length) s K
 | [],i,s,K,_,h=>h
 | o::l,i,s,K,hl,h=>by
  have hi:i<all.length:=by
   rcases d3M i all.length with h1|h1
   ·exact h1
   ·rw [d3A h1] at hl;cases hl
  rw [d3r hi] at hl
  injection hl with h1 h2
  rw [d2X,List.range'_succ,a1D,d2P hi,h1]
  simp only
  rw [c0C] at h
  refine execD_mono (fun s hs=>?_) h
  exact a6r l (i+1) s K h2 hs
where
 execD_mono {dsts:List (Option Nat)} {all:List Oper} {i:Nat} {o:Oper} {s:S} {K K':S→Prop} (hK:∀s,K s→K' s) (h:a04 f7 dsts all i o s K):a04 f7 dsts all i o s K':=by
  have hst:∀ {s:S} {dst:Option Nat} {op:Op},a0r f7 all i s dst K op→a0r f7 all i s dst K' op:=fun {s dst op} h=>by
   unfold a0r at h ⊢
   split at h
   ·split at h
    ·split at h
     ·exact U9.mono h fun v o' ks hk=>hK _ hk
     ·split at h
      ·exact a29.mono h fun v o' hk=>⟨hk.1,hK _ hk.2⟩
      ·exact a0T hK h
    ·exact a0T hK h
   ·exact a0T hK h
  obtain ⟨dst,op,type,pos,after,gd⟩:=o
  cases gd with
  | none=>exact hst h
  | some jb =>
   obtain ⟨j,b⟩:=jb
   have h':guard s dsts j (fun
    | some c=>match bEq c b with
     | true=>a0r f7 all i s dst K op
     | false=>K (s.put dst vun)
    | none=>K (s.put dst vun)):=h
   obtain ⟨c,h1,h2⟩:=a2h h'
   show guard s dsts j (fun
    | some c=>match bEq c b with
     | true=>a0r f7 all i s dst K' op
     | false=>K' (s.put dst vun)
    | none=>K' (s.put dst vun))
   refine h2 _ ?_
   cases c with
   | none=>exact hK _ h1
   | some c =>
    simp only at h1 ⊢
    cases hb:bEq c b with
    | true=>rw [hb] at h1;exact hst h1
    | false=>rw [hb] at h1;exact hK _ h1
theorem b8w {ks:List Nat}:∀ {t:List V} {i j:Nat},J9 (v7 t i) (v7 t j)=true→J9 (v7 (C0 ks t) i) (v7 (C0 ks t) j)=true:=by
 induction ks with
 | nil=>intro t i j h;exact h
 | cons k ks ih =>
  intro t i j h
  rw [C0]
  refine ih ?_
  rw [a1X,a1X]
  exact b3N (kk:=some k) h
theorem PP.called {prs:List (Nat×Nat)} {s:S} (h:PP prs s) {ks:List Nat} {d:Option Nat} {v:V} {o':List O} (hf:c0P prs d):PP prs (S.put ⟨C0 ks s.t,o'⟩ d v):=fun p hp=>by
 have key:∀i,d≠some i→v7 (S.put ⟨C0 ks s.t,o'⟩ d v).t i=v7 (C0 ks s.t) i:=fun i hi=>by
  cases d with
  | none=>rfl
  | some x =>
   show v7 (H0 (C0 ks s.t) x v) i=_
   rw [a2Y (fun e=>hi (by rw [e]))]
 rw [key _ (hf p hp).1,key _ (hf p hp).2]
 exact b8w (h p hp)
theorem b57 {dsts:List (Option Nat)} {prs:List (Nat×Nat)} {all:List Oper} {i:Nat} {o:Oper} {s:S} {K:S→Prop} (hP:PP prs s) (hf:c0P prs o.dst) (h:a04 f7 dsts all i o s K):a04 f7 dsts all i o s (fun s'=>PP prs s'∧K s'):=by
 obtain ⟨dst,op,type,pos,after,gd⟩:=o
 have hst:∀ {K:S→Prop},a0r f7 all i s dst K op→a0r f7 all i s dst (fun s'=>PP prs s'∧K s') op:=fun {K} h=>by
  have h0:∀ {K:S→Prop} {op:Op},G4 f7 false s dst K op→G4 f7 false s dst (fun s'=>PP prs s'∧K s') op:=fun {K op} h=>a0T (fun s' ⟨⟨kk,v,o',e⟩,hk⟩=>⟨by rw [e];exact hP.next hf,hk⟩) (a9t h)
  unfold a0r at h ⊢
  split at h
  ·split at h
   ·split at h
    ·exact U9.mono h fun v o' ks hk=>⟨hP.called hf,hk⟩
    ·split at h
     ·exact a29.mono h fun v o' hk=>⟨hk.1,hP.called (ks:=[]) hf,hk.2⟩
     ·exact h0 h
   ·exact h0 h
  ·exact h0 h
 cases gd with
 | none=>exact hst h
 | some jb =>
  obtain ⟨j,b⟩:=jb
  have h':guard s dsts j (fun
   | some c=>match bEq c b with
    | true=>a0r f7 all i s dst K op
    | false=>K (s.put dst vun)
   | none=>K (s.put dst vun)):=h
  obtain ⟨c,h1,h2⟩:=a2h h'
  have hv:PP prs (s.put dst vun):=hP.next (kk:=none) (o':=s.o) hf
  show guard s dsts j (fun
   | some c=>match bEq c b with
    | true=>a0r f7 all i s dst (fun s'=>PP prs s'∧K s') op
    | false=>PP prs (s.put dst vun)∧K (s.put dst vun)
   | none=>PP prs (s.put dst vun)∧K (s.put dst vun))
  refine h2 _ ?_
  cases c with
  | none=>exact ⟨hv,h1⟩
  | some c =>
   simp only at h1 ⊢
   cases hb:bEq c b with
   | true=>rw [hb] at h1;exact hst h1
   | false=>rw [hb] at h1;exact ⟨hv,h1⟩
theorem b3O {dsts:List (Option Nat)} {prs:List (Nat×Nat)} {all:List Oper} {i:Nat} {o:Oper} {s:S} {K:S→Prop} (hP:PP prs s) (hk:a9u prs o) (h:a04 f7 dsts all i o s K):a04 f7 dsts all i o s (fun s'=>PP prs s'∧K s'):=by
 cases ha:Z1 o.op with
 | none=>exact b57 hP (a6q hk ha) h
 | some j =>
  have e:∀K:S→Prop,a04 f7 dsts all i o s K=o4 f7 dsts o s K:=fun K=>by
   obtain ⟨dst,op,type,pos,after,gd⟩:=o
   simp only at ha
   have e1:∀(s:S) (K:S→Prop),a0r f7 all i s dst K op=G4 f7 false s dst K op:=fun s K=>by
    unfold Z1 at ha
    split at ha <;> first|rfl|cases ha
   cases gd with
   | none=>exact e1 s K
   | some jb =>
    obtain ⟨j,b⟩:=jb
    unfold a04
    simp only [e1]
    rfl
  rw [e] at h ⊢
  exact a4e hP hk h
theorem a7o {dsts:List (Option Nat)} {prs:List (Nat×Nat)} {all:List Oper} {y:Nat} {oy:Oper} (hoy:all[y]?=some oy) (hty:a9w all y):∀ {pre post:List Nat} {s:S} {K:S→Prop},(∀x∈pre,a9w all x∧∀ox,all[x]?=some ox→a50 dsts prs ox oy=true∧a9u prs ox)→PP prs s→a1D dsts all (pre++y::post) s K→a1D dsts all (y::(pre++post)) s K
 | [],post,s,K,_,_,h=>h
 | x::pre,post,s,K,ha,hP,h=>by
  rw [d3I,a1D] at h
  obtain ⟨hx,hxx⟩:=ha x (d2V ..)
  cases hox:all[x]? with
  | none =>
   rw [hox] at h
   have h1:=a7o hoy hty (fun z hz=>ha z (d2W _ hz)) hP h
   rw [a1D,hoy] at h1 ⊢
   simp only at h1 ⊢
   refine a6r.execD_mono (fun s hs=>?_) h1
   rw [d3I,a1D,hox]
   exact hs
  | some ox =>
   rw [hox] at h
   simp only at h
   obtain ⟨hap,hf⟩:=hxx ox hox
   rw [a3b hx] at h
   have h2:o4 f7 dsts ox s fun s=>o4 f7 dsts oy s fun s=>a1D dsts all (pre++post) s K:=a1z (fun s hs=>by
    have:=a7o hoy hty (fun z hz=>ha z (d2W _ hz)) hs.1 hs.2
    rw [a1D,hoy] at this
    simp only at this
    rw [a3b hty] at this
    exact this) (a4e hP hf h)
   rw [a1D,hoy]
   simp only
   rw [a3b hty]
   have h3:=c5A hap hP h2
   refine a1z (fun s hs=>?_) h3
   rw [d3I,a1D,hox]
   simp only
   rw [a3b hx]
   exact hs
theorem a51 {dsts:List (Option Nat)} {an:List (List Nat)} {i:Nat} {oi:Oper}:∀ {l:List Oper} {j:Nat} {r:List Nat},a0g dsts an i oi j l=some r→∀(m:Nat) (o:Oper),l[m]?=some o→j+m≠i →
  (j+m<i→(an.getD i []).contains (j+m)=true∨((Q6 o.dst (A3 dsts oi) && Q6 oi.dst (A3 dsts o) && (o.dst.isNone || o.dst != oi.dst))=true∧∃ks,a2g dsts o=some ks∧∀k∈ks,k∈r))∧(i<j+m→(an.getD (j+m) []).contains i=true)
 | [],j,r,h,m,o,hm,_=>by simp at hm
 | x::l,j,r,h,m,o,hm,hne=>by
  rw [a0g] at h
  cases m with
  | zero =>
   simp at hm
   subst hm
   rw [d4a] at hne ⊢
   rw [show Nat.beq j i=false by rw [←Bool.not_eq_true,Nat.beq_eq];exact hne] at h
   simp only at h
   split at h
   ·rename_i hlt
    rw [d3Z] at hlt
    refine ⟨fun _=>?_,fun h'=>by omega⟩
    split at h
    ·exact .inl (by assumption)
    ·split at h
     ·rename_i hn
      split at h
      ·rename_i ks hks
       split at h
       ·rename_i ms hms
        have h:=Option.some.inj h
        exact .inr ⟨hn,ks,hks,fun k hk=>by rw [←h];exact d5l _ hk⟩
       ·cases h
      ·cases h
     ·cases h
   ·rename_i hlt
    have hlt:¬j<i:=fun h=>by rw [←d3Z] at h;rw [h] at hlt;cases hlt
    refine ⟨fun h'=>absurd h' hlt,fun _=>?_⟩
    split at h
    ·assumption
    ·cases h
  | succ m =>
   have hm:l[m]?=some o:=by simpa using hm
   have e:j+(m+1)=j+1+m:=by omega
   rw [e] at hne ⊢
   have I5:∀ {r':List Nat},a0g dsts an i oi (j+1) l=some r'→(∀k∈r',k∈r)→_:=fun {r'} h' hr=>by
    obtain ⟨h1,h2⟩:=a51 h' m o hm hne
    exact (⟨fun hl=>(h1 hl).imp id fun ⟨h3,ks,h4,h5⟩=>⟨h3,ks,h4,fun k hk=>hr k (h5 k hk)⟩,h2⟩:(j+1+m<i→(an.getD i []).contains (j+1+m)=true∨((Q6 o.dst (A3 dsts oi) && Q6 oi.dst (A3 dsts o) && (o.dst.isNone || o.dst != oi.dst))=true∧∃ks,a2g dsts o=some ks∧∀k∈ks,k∈r))∧(i<j+1+m→(an.getD (j+1+m) []).contains i=true))
   split at h
   ·exact I5 h fun _ hk=>hk
   ·split at h
    ·split at h
     ·exact I5 h fun _ hk=>hk
     ·split at h
      ·split at h
       ·split at h
        ·rename_i ms hms
         have h:=Option.some.inj h
         exact I5 hms fun k hk=>by rw [←h];exact d4C _ hk
        ·cases h
       ·cases h
      ·cases h
    ·split at h
     ·exact I5 h fun _ hk=>hk
     ·cases h
theorem a4I {all:List Oper} {i:Nat} {l:List Nat} (h:a3y all i=some l):∃dst x args ts ty p a,all[i]?=some ⟨dst,.call ⟨.value x,args,ts⟩,ty,p,a,none⟩∧a0g (o6 all) (M6 all []) i ⟨dst,.call ⟨.value x,args,ts⟩,ty,p,a,none⟩ 0 all=some l:=by
 unfold a3y at h
 split at h
 ·rename_i oi hoi
  have h1:=a2T hoi
  split at h
  ·rename_i hc
   rw [d2Z] at hc
   obtain ⟨dst,op,ty,p,a,g⟩:=oi
   obtain ⟨hc1,hc2⟩:=hc
   simp only at hc1 hc2
   obtain rfl:g=none:=d4L.1 hc2
   unfold a8o at hc1
   split at hc1
   ·exact ⟨_,_,_,_,_,_,_,h1,h⟩
   ·cases hc1
  ·cases h
 ·cases h
theorem b3P:∀ {l:List Oper} {o:Oper},o∈l→o.dst∈o6 l
 | [],o,h=>by simp at h
 | x::l,o,h=>by
  rw [o6]
  rcases d3d.1 h with rfl|h
  ·exact d2V ..
  ·exact d2W _ (b3P h)
theorem b2u:∀ {l:List (Option Nat)} {i:Nat},some i∈l→inD l i=true
 | [],i,h=>by simp at h
 | none::l,i,h=>by rw [inD];exact b2u (by simpa using h)
 | some x::l,i,h=>by
  rw [inD]
  split
  ·rfl
  ·rename_i hx
   rcases d3d.1 h with h|h
   ·have h:=Option.some.inj h
    rw [F5.2 h.symm] at hx
    cases hx
   ·exact b2u h
theorem a05 {dsts:List (Option Nat)} {an:List (List Nat)} {i:Nat} {oi:Oper}:∀ {l:List Oper} {j:Nat} {r:List Nat},a0g dsts an i oi j l=some r→∀k∈r,inD dsts k=false
 | [],j,r,h,k,hk=>by rw [a0g] at h;have h:=Option.some.inj h;subst h;simp at hk
 | x::l,j,r,h,k,hk=>by
  rw [a0g] at h
  split at h
  ·exact a05 h k hk
  ·split at h
   ·split at h
    ·exact a05 h k hk
    ·split at h
     ·split at h
      ·rename_i ks hks
       split at h
       ·rename_i ms hms
        have h:=Option.some.inj h
        subst h
        rcases d38.1 hk with hk|hk
        ·unfold a2g at hks
         split at hks
         ·split at hks
          ·cases hks
          ·rename_i hin
           have hks:=Option.some.inj hks
           subst hks
           rw [d33.1 hk]
           exact hin
         ·split at hks
          ·have hks:=Option.some.inj hks
           subst hks
           simp at hk
          ·cases hks
        ·exact a05 hms k hk
       ·cases h
      ·cases h
     ·cases h
   ·split at h
    ·exact a05 h k hk
    ·cases h
theorem c8W {all:List Oper} {prs:List (Nat×Nat)} {y:Nat} {oy ox:Oper} {l ks:List Nat} (hoy:all[y]?=some oy) (hty:a7G all y=false) (hby:a3y all y=some l) (hn:(Q6 ox.dst (A3 (o6 all) oy) && Q6 oy.dst (A3 (o6 all) ox) && (ox.dst.isNone || ox.dst != oy.dst))=true) (hk:a2g (o6 all) ox=some ks) (hkl:∀k∈ks,k∈l) (hap:a50 (o6 all) prs ox oy=true) (hxm:ox∈all)
  {s:S} (hP:PP prs s) {R:S→Prop} (h:o4 f7 (o6 all) ox s fun s=>a04 f7 (o6 all) all y oy s R):a04 f7 (o6 all) all y oy s fun s=>o4 f7 (o6 all) ox s R:=by
 obtain ⟨dst,x,args,ts,ty,p,a,hoy',_⟩:=a4I hby
 rw [hoy] at hoy'
 have hoy':=Option.some.inj hoy'
 subst hoy'
 simp only [d2Z] at hn
 obtain ⟨⟨hn1,hn2⟩,hn3⟩:=hn
 have pt:∃v,a04 f7 (o6 all) all y ⟨dst,.call ⟨.value x,args,ts⟩,ty,p,a,none⟩ (s.put ox.dst v) R∧∀(s':S) (K':S→Prop),a9m (A3 (o6 all) ox) s s'→a3t l s.t s.o s'.o→K' (s'.put ox.dst v)→o4 f7 (o6 all) ox s' K':=by
  unfold a2g at hk
  split at hk
  ·rename_i d t k ty' p' a'
   split at hk
   ·cases hk
   have hk:=Option.some.inj hk
   subst hk
   obtain ⟨v,h1,h2⟩:=a8r _ (show J8 f7 s.o (fun v=>a04 f7 (o6 all) all y ⟨dst,.call ⟨.value x,args,ts⟩,ty,p,a,none⟩ (s.put d v) R) t (v7 s.t k) from h)
   refine ⟨v,h1,fun s' K' hs hkp hk'=>?_⟩
   show J8 f7 s'.o (fun v=>K' (s'.put d v)) t (v7 s'.t k)
   have hsl:v7 s'.t k=v7 s.t k:=hs k (by simp [A3,Op.operands,tmps])
   rw [hsl,←a9v (os:=s.o) (fun j hj=>?_)]
   ·exact h2 _ hk'
   ·exact hkp k (hkl k (by simp)) j (by rcases hj with ⟨o,e⟩|⟨i,z,o,e⟩ <;> rw [e] <;> rfl)
  ·split at hk
   ·rename_i hb
    obtain ⟨v,h1,h2⟩:=a6m hb h
    exact ⟨v,h1,fun s' K' hs _ hk'=>h2 s' K' hs hk'⟩
   ·cases hk
 obtain ⟨v,h1,h2⟩:=pt
 have hsT:a9m (A3 (o6 all) ⟨dst,.call ⟨.value x,args,ts⟩,ty,p,a,none⟩) s (s.put ox.dst v):=a1Y hn1
 have hops:∀z∈(Op.call ⟨.value x,args,ts⟩).operands.toList,(s.put ox.dst v).get z=s.get z:=fun z hz=>by
  cases z with
  | tmp i =>
   show v7 (s.put ox.dst v).t i=v7 s.t i
   exact hsT i (by unfold A3;exact d4C _ (a6k hz))
  | _=>rfl
 have hget:(s.put ox.dst v).get x=s.get x:=hops x (by simp [Op.operands,Call.operands])
 have hgets:∀l:List Operand,(∀z∈l,z∈(Op.call ⟨.value x,args,ts⟩).operands.toList)→L4 (s.put ox.dst v).get l=L4 s.get l:=by
  intro l
  induction l with
  | nil=>intro _;rfl
  | cons z l ih=>intro hz;rw [L4,L4,hops z (hz z (d2V ..)),ih fun z' h'=>hz z' (d2W _ h')]
 have hargs:L4 (s.put ox.dst v).get args.toList=L4 s.get args.toList:=hgets _ fun z hz=>by
  have hz:z∈args:=by simpa using hz
  simp [Op.operands,Call.operands,hz]
 have ho:(s.put ox.dst v).o=s.o:=a5g ..
 have hturn:a6g (b0T all y) (s.put ox.dst v) x args.toList=a6g (b0T all y) s x args.toList:=by
  unfold a6g
  rw [hget,hargs,ho]
 have e0:∀(s:S) (R:S→Prop),a04 f7 (o6 all) all y ⟨dst,.call ⟨.value x,args,ts⟩,ty,p,a,none⟩ s R=match a6g (b0T all y) s x args.toList with
   | some (f,vs)=>f7.callx f vs l s (fun v s'=>R (s'.put dst v))
   | none=>o4 f7 (o6 all) ⟨dst,.call ⟨.value x,args,ts⟩,ty,p,a,none⟩ s R:=fun s R=>by
  show a0r f7 all y s dst R (.call ⟨.value x,args,ts⟩)=_
  rw [a0r]
  cases a6g (b0T all y) s x args.toList with
  | none=>rfl
  | some fv=>obtain ⟨f,vs⟩:=fv;simp only [hty,hby]
 rw [e0] at h1 ⊢
 rw [hturn] at h1
 cases hT:a6g (b0T all y) s x args.toList with
 | none =>
  rw [hT] at h1
  simp only at h1 ⊢
  refine c5A hap hP ?_
  exact h2 s (fun s=>o4 f7 (o6 all) ⟨dst,.call ⟨.value x,args,ts⟩,ty,p,a,none⟩ s R) (fun _ _=>rfl) (fun _ _ _ _=>rfl) h1
 | some fv =>
  obtain ⟨f,vs⟩:=fv
  rw [hT] at h1
  simp only at h1 ⊢
  have h1:a29 f vs (s.put ox.dst v).o fun u o'=>a3t l (s.put ox.dst v).t (s.put ox.dst v).o o'∧R (S.put ⟨(s.put ox.dst v).t,o'⟩ dst u):=h1
  rw [ho] at h1
  refine a29.mono h1 fun u o' ⟨hkp,hR⟩=>?_
  have hkp':a3t l s.t s.o o':=fun i hi k hik=>by
   by_cases hd:ox.dst=some i
   ·-- a loaded variable's slot is not filled here
    exfalso
    obtain ⟨_,_,_,_,_,_,_,_,hbl⟩:=a4I hby
    have h5:=a05 hbl i hi
    rw [b2u (by rw [←hd];exact b3P hxm)] at h5
    cases h5
   ·refine hkp i hi k ?_
    rw [show v7 (s.put ox.dst v).t i=v7 s.t i by
     cases hxd:ox.dst with
     | none=>rfl
     | some d=>exact a2Y fun e=>hd (by rw [hxd,e])]
    exact hik
  refine ⟨hkp',h2 _ R (fun t ht=>?_) (by rw [a5g];exact hkp') ?_⟩
  ·cases hd:dst with
   | none=>rfl
   | some d=>exact a2Y fun e=>by subst e;exact M2 hn2 _ hd ht
  ·have hcm:(S.put ⟨s.t,o'⟩ dst u).put ox.dst v=S.put ⟨(s.put ox.dst v).t,o'⟩ dst u:=by
    rw [a2Z (fun z hz hz'=>by
     rw [d36] at hn3
     rcases hn3 with h|h
     ·rw [hz'] at h;cases h
     ·rw [hz',hz] at h;simp at h)]
    cases ox.dst <;> rfl
   rw [hcm]
   exact hR
theorem a52 {prs:List (Nat×Nat)} {all:List Oper} {y:Nat} {oy:Oper} {l:List Nat} (hoy:all[y]?=some oy) (hty:a7G all y=false) (hby:a3y all y=some l):∀ {pre post:List Nat} {s:S} {K:S→Prop},(∀x∈pre,a9w all x∧∀ox,all[x]?=some ox→a50 (o6 all) prs ox oy=true∧a9u prs ox∧(Q6 ox.dst (A3 (o6 all) oy) && Q6 oy.dst (A3 (o6 all) ox) && (ox.dst.isNone || ox.dst != oy.dst))=true∧∃ks,a2g (o6 all) ox=some ks∧∀k∈ks,k∈l)→PP prs s→a1D (o6 all) all (pre++y::post) s K→a1D (o6 all) all (y::(pre++post)) s K
 | [],post,s,K,_,_,h=>h
 | x::pre,post,s,K,ha,hP,h=>by
  rw [d3I,a1D] at h
  obtain ⟨hx,hxx⟩:=ha x (d2V ..)
  cases hox:all[x]? with
  | none =>
   rw [hox] at h
   have h1:=a52 hoy hty hby (fun z hz=>ha z (d2W _ hz)) hP h
   rw [a1D,hoy] at h1 ⊢
   simp only at h1 ⊢
   refine a6r.execD_mono (fun s hs=>?_) h1
   rw [d3I,a1D,hox]
   exact hs
  | some ox =>
   rw [hox] at h
   simp only at h
   obtain ⟨hap,hf,hn,ks,hks,hkl⟩:=hxx ox hox
   rw [a3b hx] at h
   have h2:o4 f7 (o6 all) ox s fun s=>a04 f7 (o6 all) all y oy s fun s=>a1D (o6 all) all (pre++post) s K:=a1z (fun s hs=>by
    have:=a52 hoy hty hby (fun z hz=>ha z (d2W _ hz)) hs.1 hs.2
    rw [a1D,hoy] at this
    exact this) (a4e hP hf h)
   rw [a1D,hoy]
   simp only
   have h3:=c8W (prs:=prs) hoy hty hby hn hks hkl hap (d3e hox) hP h2
   refine a6r.execD_mono (fun s hs=>?_) h3
   rw [d3I,a1D,hox]
   simp only
   rw [a3b hx]
   exact hs
def b58 (dsts:List (Option Nat)) (prs:List (Nat×Nat)) (ops:List Oper) (an:List (List Nat)) (j i:Nat):Bool:=(an.getD i []).contains j || match ops[j]?,ops[i]? with|some x,some y=>a50 dsts prs x y|_,_=>true
def b2v (ops:Array Oper):Bool :=
 let l:=ops.toList
 let an:=M6 l []
 let d:=o6 l
 l.all (c0B (a1j l)) && (List.range l.length).all fun i=>(an.getD i []).all (fun j=>Nat.blt j i) && (List.range i).all fun j=>b58 d (a1j l) l an j i
theorem a9x:∀(l:List Oper) (acc:List (List Nat)) (i:Nat),i<acc.length→(M6 l acc)[i]?=acc[i]?
 | [],acc,i,_=>rfl
 | o::l,acc,i,h=>by rw [M6,a9x l _ i (by simp;omega),d3n h]
theorem b6P:∀(l:List Oper) (acc:List (List Nat)) (i:Nat) (o:Oper),l[i]?=some o→(M6 l acc)[acc.length+i]?=some ((a4a o).flatMap fun j=>j::(if j<acc.length+i then (M6 l acc).getD j [] else []))
 | [],acc,i,o,h=>by simp at h
 | x::l,acc,0,o,h=>by
  simp at h
  subst h
  rw [M6,d4a,a9x l _ _ (by simp),d3h (d3b _)]
  simp only [d4k,d4V,Option.some.injEq]
  congr 1
  funext j
  congr 1
  split
  ·rename_i hj
   rw [d3k,d3k,a9x l _ j (by simp;omega),d3n hj]
  ·rename_i hj
   rw [d3k,d3J (by omega)]
   rfl
 | x::l,acc,i+1,o,h=>by
  have:=b6P l (acc++[(a4a x).flatMap fun j=>j::acc.getD j []]) i o (by simpa using h)
  rw [M6]
  have e:(acc++[(a4a x).flatMap fun j=>j::acc.getD j []]).length+i=acc.length+(i+1):=by simp;omega
  rw [e] at this
  exact this
section
variable {I0:Nat→Nat→Prop} {X:Nat→Prop} {w0:W0} {s:S} {a:Act} {w:World}
theorem c8X {ro:Option Nat} {n:Nat} {ops:Array Oper} {Q:Exit→Act→World→Prop} {o:Oper} (hop:a1y Tryz.prog o.op=true) (h:Rel I0 X w0 s a w) {K1:S→Prop} {ix:Nat} (hx:a04 f7 (o6 ops.toList) ops.toList ix o s K1) {Kw:Act→World→Prop} (hKw:∀s' a' w',Rel I0 X w0 s' a' w'→K1 s'→Kw a' w'):if Region.wanted o (yielded ops a.tmps) then o.wpIn (FW ro) n Tryz.prog a w Kw Q else (∀f,o.about Tryz.prog w a.eval=some f→(FW ro).fn f)∧Kw (a.put o.dst undef) w:=by
 obtain ⟨dst,op,type,pos,after,gd⟩:=o
 have hstep:a0r f7 ops.toList ix s dst K1 op→Oper.wpIn (FW ro) n Tryz.prog ⟨dst,op,type,pos,after,gd⟩ a w Kw Q:=fun hs=>by
  obtain ⟨I,g,h⟩:=h
  have h0:G4 f7 false s dst K1 op→Oper.wpIn (FW ro) n Tryz.prog ⟨dst,op,type,pos,after,gd⟩ a w Kw Q:=fun hs=>b0V (fun c hc=>a2W hop c hc) (Oper.wp_mono (fun a' w' ⟨s',h1,h2⟩=>hKw s' a' w' h1 h2) (b2p h (o:=⟨dst,op,type,pos,after,gd⟩) (Q:=Q) hop hs))
  unfold a0r at hs
  split at hs
  ·rename_i x args ts
   split at hs
   ·rename_i f vs hf
    split at hs
    ·unfold a6g at hf
     split at hf <;> try cases hf
     rename_i f' ks hfn
     replace hf:some (f',a3H (L4 s.get args.toList) (a8E ks))=some (f,vs):=by
      split at hf
      ·exact hf
      ·split at hf
       ·cases hf
       ·exact hf
     injection hf with hf
     injection hf with e1 e2
     subst e1
     obtain ⟨cs,hc1,hc2⟩:=c05 h hfn
     refine b0V (fun c hc=>a2W hop c hc) (Oper.wp_mono (fun a' w' ⟨s',h1,h2⟩=>hKw s' a' w' h1 h2) (a9f h (o:=⟨dst,.call ⟨.value x,args,ts⟩,type,pos,after,gd⟩) (fun hf=>a1W (cs:=cs) rfl hc1 hf) ?_ hs))
     rw [←e2,a1i]
     exact (h.gets args.toList).append hc2
    ·split at hs
     ·unfold a6g at hf
      split at hf <;> try cases hf
      rename_i f' ks hfn
      replace hf:some (f',a3H (L4 s.get args.toList) (a8E ks))=some (f,vs):=by
       split at hf
       ·exact hf
       ·split at hf
        ·cases hf
        ·exact hf
      injection hf with hf
      injection hf with e1 e2
      subst e1
      obtain ⟨cs,hc1,hc2⟩:=c05 h hfn
      refine b0V (fun c hc=>a2W hop c hc) (Oper.wp_mono (fun a' w' ⟨s',h1,h2⟩=>hKw s' a' w' h1 h2) (c03 h (o:=⟨dst,.call ⟨.value x,args,ts⟩,type,pos,after,gd⟩) (fun hf=>a1W (cs:=cs) rfl hc1 hf) ?_ hs))
      rw [←e2,a1i]
      exact (h.gets args.toList).append hc2
     ·exact h0 hs
   ·exact h0 hs
  ·exact h0 hs
 have hskip:K1 (s.put dst vun)→Kw (a.put dst undef) w:=fun hs=>by
  obtain ⟨I,g,h⟩:=h
  exact hKw _ _ w ⟨I,g,h.put (x:=vun) (.tu [] [] rfl (fun i u c hu _=>by simp at hu)) dst⟩ hs
 cases gd with
 | none =>
  rw [d2S (by rfl)]
  exact hstep hx
 | some jb =>
  obtain ⟨j,b⟩:=jb
  have hx':guard s (o6 ops.toList) j (fun
   | some c=>match bEq c b with
    | true=>a0r f7 ops.toList ix s dst K1 op
    | false=>K1 (s.put dst vun)
   | none=>K1 (s.put dst vun)):=hx
  obtain ⟨c,hc,hK⟩:=a9i h hx'
  have hw:Region.wanted ⟨dst,op,type,pos,after,some (j,b)⟩ (yielded ops a.tmps)=(c == some b):=by simp [Region.wanted,hc]
  rw [hw]
  cases c with
  | none =>
   rw [d2T (by simp)]
   exact ⟨fun _ _=>trivial,hskip hK⟩
  | some c =>
   simp only at hK
   split at hK
   ·rename_i hb
    rw [a2A] at hb
    rw [d2S (by simpa using hb)]
    exact hstep hK
   ·rename_i hb
    rw [a2A] at hb
    rw [d2T (by simpa using hb)]
    exact ⟨fun _ _=>trivial,hskip hK⟩
theorem b6Q {ops:Array Oper} {i:Nat} {o:Oper} (h:ops[i]?=some o) (hlt:∀j∈(M6 ops.toList []).getD i [],j<i):(M6 ops.toList []).getD i []=(a4a o).flatMap fun j=>j::(M6 ops.toList []).getD j []:=by
 have h1:=b6P ops.toList [] i o (by simpa using h)
 simp only [d3g,d3P] at h1
 have h2:(M6 ops.toList []).getD i []=(a4a o).flatMap fun j=>j::(if j<i then (M6 ops.toList []).getD j [] else []):=by
  rw [d3k,h1];rfl
 have h3:∀j∈a4a o,j<i:=fun j hj=>hlt j (by rw [h2];exact d3K.2 ⟨j,hj,d2V ..⟩)
 rw [h2,List.flatMap_def,List.flatMap_def]
 congr 1
 exact d4x fun j hj=>by rw [d2S (h3 j hj)]
theorem a9y {o:Oper} {e:Edge} (he:e∈o.after) (hb:Region.binds .any e=true):e.on∈a4a o:=d4r.2 ⟨e,d41.2 ⟨by simpa using he,hb⟩,rfl⟩
theorem c3K {ro:Option Nat} {n:Nat} {ops:Array Oper} {Q:Exit→Act→World→Prop} {K:S→Prop} (hQ:∀s' a' w',Rel I0 X w0 s' a' w'→K s'→Q .normal a' w') (hok:c0E Tryz.prog ops.toList=true) (hd:b2v ops=true) (hfree:∀o∈ops.toList,a9u (a1j ops.toList) o):∀(fuel:Nat) (l:List Nat) (listed:Array Bool) (s:S) (a:Act) (w:World),l.length=fuel→listed.size=ops.size→l.Pairwise (·<·)→(∀i,i∈l↔i<ops.size∧listed.getD i true=false)→(∀i,i<ops.size→listed.getD i false=true→∀j∈(M6 ops.toList []).getD i [],listed.getD j false=true)→Rel I0 X w0 s a w→PP (a1j ops.toList) s→a1D (o6 ops.toList) ops.toList l s K→wpAnyIn (FW ro) n Tryz.prog .any ops Q fuel listed a w:=by
 have hd':∀i,i<ops.size→(∀j∈(M6 ops.toList []).getD i [],j<i)∧∀j,j<i→b58 (o6 ops.toList) (a1j ops.toList) ops.toList (M6 ops.toList []) j i=true:=fun i hi=>by
  have h1:=d3z.1 (Bool.and_eq_true_iff.1 hd).2 i (by simpa using hi)
  rw [d2Z] at h1
  exact ⟨fun j hj=>by simpa [d3Z] using d3z.1 h1.1 j hj,fun j hj=>d3z.1 h1.2 j (by simpa using hj)⟩
 intro fuel
 induction fuel with
 | zero =>
  intro l listed s a w hl hsz hp hmem hcl hrel hPP hK
  obtain rfl:=List.length_eq_zero_iff.1 hl
  refine ⟨?_,hQ _ _ _ hrel hK⟩
  cases hr:Region.ready .any ops listed with
  | nil=>rfl
  | cons x xs =>
   obtain ⟨h1,o,h2,_⟩:=mem_ready.1 (show x∈Region.ready .any ops listed by rw [hr];exact d2V ..)
   have:=(hmem x).2 ⟨(d3i.1 h2).1,h1⟩
   simp at this
 | succ fuel ih =>
  intro l listed s a w hl hsz hp hmem hcl hrel hPP hK
  have un:∀j,j∈l→listed.getD j false=true→False:=fun j hj h=>by
   obtain ⟨h1,h2⟩:=(hmem j).1 hj
   simp [hsz,h1] at h h2
   rw [h2] at h;cases h
  refine ⟨fun hr=>?_,fun i hi=>?_⟩
  ·exfalso
   cases l with
   | nil=>simp at hl
   | cons i0 rest =>
    obtain ⟨h1,h2⟩:=(hmem i0).1 (d2V ..)
    obtain ⟨o,ho⟩:∃o,ops[i0]?=some o:=⟨_,d3N h1⟩
    have:i0∈Region.ready .any ops listed:=mem_ready.2 ⟨h2,o,ho,fun e he hb=>by
     have h3:e.on∈(M6 ops.toList []).getD i0 []:=by
      rw [b6Q ho (hd' i0 h1).1]
      exact d3K.2 ⟨e.on,a9y he hb,d2V ..⟩
     have h4:=(hd' i0 h1).1 _ h3
     have h5:¬(e.on∈i0::rest):=fun hm=>by
      rcases d3d.1 hm with hm|hm
      ·omega
      ·have:=(d3G.1 hp).1 _ hm
       omega
     have h6:listed.getD e.on true=true:=by
      cases hx:listed.getD e.on true with
      | true=>rfl
      | false=>exact absurd ((hmem e.on).2 ⟨by omega,hx⟩) h5
     have hlt:e.on<listed.size:=by omega
     simpa [hlt] using h6⟩
    rw [hr] at this
    simp at this
  ·obtain ⟨h1,o,ho,hall⟩:=mem_ready.1 hi
   have hlt:=(d3i.1 ho).1
   have hil:i∈l:=(hmem i).2 ⟨hlt,h1⟩
   have han:∀j∈(M6 ops.toList []).getD i [],listed.getD j false=true:=fun j hj=>by
    rw [b6Q ho (hd' i hlt).1] at hj
    obtain ⟨k,hk,hj⟩:=d3K.1 hj
    obtain ⟨e,he,hek⟩:=d4r.1 hk
    obtain ⟨he1,he2⟩:=d41.1 he
    subst hek
    have h3:=hall e (by simpa using he1) he2
    rcases d3d.1 hj with rfl|hj
    ·exact h3
    ·have:e.on<ops.size:=by
      rcases d3M e.on listed.size with h'|h'
      ·omega
      ·simp [Array.getElem?_eq_none h'] at h3
     exact hcl _ this h3 j hj
   obtain ⟨pre,post,rfl⟩:=List.append_of_mem hil
   have hpp:=d5m.1 hp
   have hot:ops.toList[i]?=some o:=by rw [d3E];exact ho
   have hpre:∀j∈pre,j<i∧j∉(M6 ops.toList []).getD i []:=fun j hj=>⟨hpp.2.2 j hj i (d2V ..),fun hm=>un j (d5l _ hj) (han j hm)⟩
   have tot:∀k,a7G ops.toList k=true→k<ops.size→∀j,j<ops.size→j≠k→(j<k→j∈(M6 ops.toList []).getD k [])∧(k<j→k∈(M6 ops.toList []).getD j []):=fun k hk hks j hj hjk=>by
    have h3:=d3z.1 hk j (by simpa using hj)
    simp only [d36,d2Z,Nat.beq_eq,d3Z,d3Y] at h3
    rcases h3 with (h3|h3)|h3
    ·exact absurd h3 hjk
    ·exact ⟨fun _=>h3.2,fun h=>by omega⟩
    ·exact ⟨fun h=>by omega,fun _=>h3.2⟩
   have hf:a1D (o6 ops.toList) ops.toList (i::(pre++post)) s K:=by
    cases hti:a7G ops.toList i with
    | true =>
     have:pre=[]:=by
      cases pre with
      | nil=>rfl
      | cons j pre =>
       obtain ⟨h3,h4⟩:=hpre j (d2V ..)
       exact absurd ((tot i hti hlt j (by omega) (by omega)).1 h3) h4
     subst this
     exact hK
    | false =>
     have hpl:∀j∈pre,a9w ops.toList j:=fun j hj=>by
      obtain ⟨hji,hja⟩:=hpre j hj
      refine ⟨?_,?_⟩
      ·cases htj:a7G ops.toList j with
       | false=>rfl
       | true=>exact absurd ((tot j htj (by omega) i hlt (by omega)).2 hji) hja
      ·cases hbj:a3y ops.toList j with
       | none=>rfl
       | some r =>
        exfalso
        obtain ⟨_,_,_,_,_,_,_,_,hbl⟩:=a4I hbj
        have h4:=(a51 hbl i o hot (by omega)).2 (by omega)
        rw [d3P] at h4
        exact hja (by simpa using h4)
     have hap:∀j∈pre,∀ox,ops.toList[j]?=some ox→a50 (o6 ops.toList) (a1j ops.toList) ox o=true:=fun j hj ox hox=>by
      obtain ⟨hji,hja⟩:=hpre j hj
      have h3:=(hd' i hlt).2 j hji
      rw [b58,d36] at h3
      rcases h3 with h3|h3
      ·exact absurd (by simpa using h3) hja
      ·rw [hox,hot] at h3
       exact h3
     cases hbi:a3y ops.toList i with
     | none=>exact a7o (prs:=a1j ops.toList) hot ⟨hti,hbi⟩ (fun j hj=>⟨hpl j hj,fun ox hox=>⟨hap j hj ox hox,hfree ox (d3e hox)⟩⟩) hPP hK
     | some r =>
      refine a52 (prs:=a1j ops.toList) hot hti hbi (fun j hj=>⟨hpl j hj,fun ox hox=>⟨hap j hj ox hox,hfree ox (d3e hox),?_⟩⟩) hPP hK
      obtain ⟨hji,hja⟩:=hpre j hj
      obtain ⟨_,_,_,_,_,_,_,hoi,hbl⟩:=a4I hbi
      rw [hot] at hoi
      have hoi:=Option.some.inj hoi
      subst hoi
      have h4:=(a51 hbl j ox hox (by omega)).1 (by omega)
      rw [d3P] at h4
      rcases h4 with h4|⟨h5,ks,h6,h7⟩
      ·exact absurd (by simpa using h4) hja
      ·exact ⟨h5,ks,h6,h7⟩
   rw [a1D,hot] at hf
   simp only at hf
   have hom:o∈ops.toList:=d3e hot
   have hf:=b3O hPP (hfree o hom) hf
   have key:=c8X (ro:=ro) (n:=n) (Q:=Q) (d3z.1 hok o (d3e (by rw [d3E];exact ho))) hrel hf (Kw:=wpAnyIn (FW ro) n Tryz.prog .any ops Q fuel (listed.setIfInBounds i true)) (fun s' a' w' hrel' hK'=>by
    refine ih (pre++post) _ s' a' w' (by simp at hl ⊢;omega) (by simpa using hsz) ?_ (fun k=>?_) (fun k hk hkl j hj=>?_) hrel' hK'.1 hK'.2
    ·exact d5m.2 ⟨hpp.1,(d3G.1 hpp.2.1).2,fun x hx y hy=>hpp.2.2 x hx y (d2W _ hy)⟩
    ·by_cases hik:i=k
     ·subst hik
      refine ⟨fun hm=>?_,fun hm=>?_⟩
      ·rcases d38.1 hm with hm|hm
       ·have:=hpp.2.2 _ hm i (d2V ..)
        omega
       ·have:=(d3G.1 hpp.2.1).1 _ hm
        omega
      ·have h6:=hm.2
       have hlt':i<listed.size:=by omega
       simp [hlt'] at h6
     ·rw [getD_set_ne true hik,←hmem k]
      simp only [d38,d3d]
      exact ⟨fun h=>h.imp id .inr,fun h=>h.imp id fun h=>h.resolve_left fun e=>hik e.symm⟩
    ·by_cases hik:i=k
     ·subst hik
      exact getD_set_true (han j hj)
     ·rw [getD_set_ne false hik] at hkl
      exact getD_set_true (hcl k hk hkl j hj))
   unfold wpOpIn
   rw [ho]
   simp only
   split at key
   ·rename_i hw
    rw [d2S hw]
    exact key
   ·rename_i hw
    rw [d2T hw]
    exact key
theorem c3L {ro:Option Nat} {n:Nat} {ops:Array Oper} {Q:Exit→Act→World→Prop} {K:S→Prop} (hQ:∀s' a' w',Rel I0 X w0 s' a' w'→K s'→Q .normal a' w') (hok:c0E Tryz.prog ops.toList=true) (hd:b2v ops=true) (h:Rel I0 X w0 s a w) (hpre:b3I (a1j ops.toList) s.t=true) (hK:c0C f7 (o6 ops.toList) ops.toList 0 ops.toList s K):wpAnyIn (FW ro) n Tryz.prog .any ops Q ops.size (Array.replicate ops.size false) a w:=by
 refine c3K hQ hok hd (fun o ho=>c0Q (d3z.1 (Bool.and_eq_true_iff.1 hd).1 o ho)) ops.size (List.range ops.size) _ s a w (by simp) (by simp) List.pairwise_lt_range (fun i=>?_) (fun i hi h=>?_) h (c59 hpre) ?_
 ·rw [d4Z]
  exact ⟨fun hi=>⟨hi,by simp [hi]⟩,fun h=>h.1⟩
 ·simp [hi] at h
 ·have h3:=a6r ops.toList 0 s K (by simp) hK
  rw [←List.range_eq_range'] at h3
  simpa using h3
end
end
end Go.Proofs.YtahpnackkmbmgaaGreat.Vm
end
