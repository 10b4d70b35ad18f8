/- Part 3 of the proof. Conditions: none. -/
import Derived.Test.YtahpnackkmbmgaaF2
import Derived.Orders
import Derived.Test.YtahpnackkmbmgaaF0
set_option linter.all false
set_option linter.unusedVariables false
set_option linter.unusedSimpArgs false
section
namespace Go.Proofs.Ytahpnackkmbmgaa.Vm
open Go.RowKit
set_option maxRecDepth 100000
set_option maxHeartbeats 4000000
section
def a4V:Op→Bool
 | .alloc _=>false
 | .box _ _=>false
 | .store _ _ _=>false
 | .buildSlice _ 0 _=>false
 | .call ⟨.builtin .append,_,_⟩=>false
 | .makeSlice _ _ _=>false
 | .makeMap _ _=>false
 | .mapUpdate _ _ _ _=>false
 | _=>true
theorem G0 {a:Ar} {s:S} {dst:Option Nat} {K:S→Prop} {op:Op} (h:a4V op=true):C9 a false s dst K op=E9 a s.get s.o (fun v=>K (s.put dst v)) op:=by
 unfold C9
 split <;> first|rfl|cases h
def Pt (T:(V→Prop)→Prop):Prop:=∀K,T K→∃v,K v∧∀K',K' v→T K'
section
variable {os:List O} {t i:Nat} {x y z:V}
theorem a6X:Pt fun K=>G3 f7 os K t x:=by
 intro K h
 simp only [G3] at h ⊢
 repeat' split at h
 all_goals first|exact h.elim|exact ⟨_,h,fun K' hk=>by simp only [*]⟩
theorem c1u:Pt fun K=>b1F K x y z:=by
 intro K h
 simp only [b1F] at h ⊢
 repeat' split at h
 all_goals first|exact h.elim|exact ⟨_,h,fun K' hk=>by simp only [*]⟩
theorem b84:Pt fun K=>N7 K t i x:=by
 intro K h
 simp only [N7] at h ⊢
 repeat' split at h
 all_goals first|exact h.elim|exact ⟨_,h,fun K' hk=>by simp only [*]⟩
theorem c1v:Pt fun K=>b1E K t i x:=by
 intro K h
 simp only [b1E] at h ⊢
 repeat' split at h
 all_goals first|exact h.elim|exact ⟨_,h,fun K' hk=>by simp only [*]⟩
theorem a7L:Pt fun K=>y8 f7 os K t x y:=by
 intro K h
 simp only [y8,W6] at h ⊢
 repeat' split at h
 all_goals first|exact h.elim|exact ⟨_,h,fun K' hk=>by simp only [*]⟩
theorem c1w:Pt fun K=>a7p f7 K t x y:=by
 intro K h
 simp only [a7p] at h ⊢
 repeat' split at h
 all_goals first|exact h.elim|exact ⟨_,h,fun K' hk=>by simp only [*]⟩
theorem c4s {op:BinOp} {x y:Value}:Pt fun K=>a7m f7 op x y K:=by
 intro K h
 simp only [a7m] at h ⊢
 split at h <;> try exact h.elim
 ·split at h
  ·rename_i hb
   unfold c5O at h ⊢
   split at h <;> try exact h.elim
   rename_i hr
   exact ⟨_,h,fun K' hk=>by first|exact hk|(rw [hb,hr];exact hk)⟩
  split at h <;> try exact h.elim
  rename_i hk
  simp only [b3n] at h ⊢
  split at h <;> first|exact h.elim|exact ⟨_,h,fun K' hk'=>by simp only [*]⟩|exact ⟨_,h.2,fun K' hk'=>by first|exact ⟨h.1,hk'⟩|(simp only [hk];exact ⟨h.1,hk'⟩)|(rw [hk];exact ⟨h.1,hk'⟩)|(split <;> simp_all)⟩
 ·simp only [b3o] at h ⊢
  split at h <;> first|exact h.elim|exact ⟨_,h,fun K' hk'=>by simp only [*]⟩|exact ⟨_,h.2,fun K' hk'=>⟨h.1,hk'⟩⟩
theorem a4l {b:Bool} {op:BinOp}:Pt fun K=>a2K b K op:=by
 intro K h
 simp only [a2K] at h ⊢
 split at h <;> first|exact h.elim|exact ⟨_,h,fun K' hk'=>hk'⟩
theorem c4t {op:BinOp}:Pt fun K=>b7M f7 op t x y K:=by
 intro K h
 simp only [b7M] at h ⊢
 split at h <;> try exact h.elim
 ·split at h
  ·split at h <;> try exact h.elim
   exact a4l _ h
  ·split at h <;> try exact h.elim
   exact a4l _ h
  ·exact c4s _ h
 ·split at h <;> try exact h.elim
  split at h <;> try exact h.elim
  exact a4l _ h
 ·split at h <;> try exact h.elim
  split at h <;> try exact h.elim
  exact a4l _ h
 ·split at h <;> try exact h.elim
  obtain ⟨h1,h2⟩:=h
  obtain ⟨v,h3,h4⟩:=a4l _ h2
  exact ⟨v,h3,fun K' hk=>⟨h1,h4 _ hk⟩⟩
 ·split at h <;> try exact h.elim
  exact a4l _ h
 ·split at h <;> try exact h.elim
  split at h <;> try exact h.elim
  split at h <;> try exact h.elim
  exact a4l _ h
theorem c1x {ok:Bool}:Pt fun K=>b1I f7 os K t ok x y:=by
 intro K h
 simp only [b1I] at h ⊢
 repeat' split at h
 all_goals first|exact h.elim|skip
 all_goals simp only [b1H,b0x] at h ⊢
 all_goals repeat' split at h
 all_goals first|exact h.elim|exact ⟨_,h,fun K' hk=>by simp only [*]⟩
theorem b85 {mx:Bool} {l:List V}:Pt fun K=>b6a f7 K mx l:=by
 intro K h
 simp only [b6a] at h ⊢
 repeat' split at h
 all_goals first|exact h.elim|exact ⟨_,h,fun K' hk=>by simp only [*]⟩
theorem c6a:Pt fun K=>nnV K x:=by
 intro K h
 simp only [nnV] at h ⊢
 split at h <;> first|exact h.elim|exact ⟨_,h,fun K' hk'=>hk'⟩
theorem c6b {op:UnOp}:Pt fun K=>unV f7 op x K:=by
 intro K h
 simp only [unV] at h ⊢
 split at h <;> first|exact h.elim|exact ⟨_,h,fun K' hk'=>hk'⟩
theorem c1y {k0 k:TK}:Pt fun K=>b1D f7 K k0 k x:=by
 intro K h
 simp only [b1D,b7N,b7O,b7P,c3X] at h ⊢
 repeat' split at h
 all_goals first|exact h.elim|exact ⟨_,h,fun K' hk=>by simp only [*]⟩
theorem b30:Pt fun K=>a2M K i x:=by
 intro K h
 simp only [a2M] at h ⊢
 repeat' split at h
 all_goals first|exact h.elim|exact ⟨_,h,fun K' hk=>by simp only [*]⟩
theorem c4u {k:TK}:Pt fun K=>b7Q f7 os K k x:=by
 intro K h
 simp only [b7Q,c3Y,c3Z] at h ⊢
 repeat' split at h
 all_goals first|exact h.elim|exact ⟨_,h,fun K' hk=>by simp only [*]⟩
theorem b86 {g:Operand→V} {ps:List (Nat×Operand)}:Pt fun K=>a2n g K t ps:=by
 intro K h
 simp only [a2n] at h ⊢
 repeat' split at h
 all_goals first|exact h.elim|exact ⟨_,h,fun K' hk=>by simp only [*]⟩
theorem a9i {g:Operand→V} {n:Nat} {ps:List (Nat×Operand)}:Pt fun K=>E4 g os K t n ps:=by
 intro K h
 simp only [E4] at h ⊢
 repeat' split at h
 all_goals first|exact h.elim|exact ⟨_,h,fun K' hk=>by simp only [*]⟩
theorem b87 {lo hi:Option V}:Pt fun K=>a7o f7 os K t x lo hi:=by
 intro K h
 simp only [a7o] at h ⊢
 repeat' split at h
 all_goals first|exact h.elim|exact ⟨_,h,fun K' hk=>by simp only [*]⟩
theorem b4G {f:Nat} {vs:List V}:Pt fun K=>a9s f7 os K f vs:=by
 intro K h
 simp only [a9s] at h ⊢
 split at h
 ·obtain ⟨q,h1,h2⟩:=h
  exact ⟨_,h2,fun K' hk=>⟨q,h1,hk⟩⟩
 ·obtain ⟨q,h1,h2⟩:=h
  exact ⟨_,h2,fun K' hk=>⟨q,h1,hk⟩⟩
theorem b88 {vs:List V}:Pt fun K=>b0y f7 os K x vs:=by
 intro K h
 simp only [b0y] at h ⊢
 split at h <;> try exact h.elim
 exact b4G K h
theorem a1X {g:Operand→V} {op:Op}:Pt fun K=>E9 f7 g os K op:=by
 intro K h
 simp only [E9] at h ⊢
 split at h <;> try exact h.elim
 ·exact ⟨_,h,fun K' hk=>hk⟩
 ·exact ⟨_,h,fun K' hk=>hk⟩
 ·exact c1u K h
 ·exact a6X K h
 ·exact b84 K h
 ·exact c1v K h
 ·exact a7L K h
 ·exact c1w K h
 ·exact c4t K h
 ·exact c6b K h
 ·exact c1y K h
 ·exact b86 K h
 ·exact a9i K h
 ·exact b30 K h
 ·exact b87 K h
 ·exact c4u K h
 ·exact b4G K h
 ·exact c1x K h
 ·exact b85 K h
 ·exact b85 K h
 ·exact c6a K h
 ·split at h <;> try exact h.elim
  exact ⟨_,h,fun K' hk=>by simp only [*]⟩
 ·exact b88 K h
end
theorem U3 {g g':Operand→V}:∀ {l:List Operand},(∀x∈l,g x=g' x)→H0 g l=H0 g' l
 | [],_=>rfl
 | x::l,h=>by rw [H0,H0,h x (c8V ..),U3 fun y hy=>h y (c8X _ hy)]
theorem a3b {g g':Operand→V} {place:List (Nat×Nat)}:∀ {ps:List (Nat×Operand)} {l:List V},(∀p∈ps,g p.2=g' p.2)→a0a g place ps l=a0a g' place ps l
 | [],_,_=>rfl
 | (i,x)::ps,l,h=>by
  rw [a0a,a0a,h (i,x) (c8V ..)]
  have ih:=fun l=>a3b (place:=place) (l:=l) fun p hp=>h p (c8X _ hp)
  simp only [ih]
theorem a15 {a:Ar} {g g':Operand→V} {os:List O} {K:V→Prop} {op:Op} (h:∀x∈op.operands,g x=g' x):E9 a g os K op=E9 a g' os K op:=by
 have hm:∀l:List Operand,(∀x∈l,x∈op.operands)→∀x∈l,g x=g' x:=fun l hl x hx=>h x (hl x hx)
 unfold E9
 split
 ·rw [h _ (by simp [Op.operands])]
 ·rw [h _ (by simp [Op.operands])]
 ·rw [h _ (by simp [Op.operands]),h _ (by simp [Op.operands]),h _ (by simp [Op.operands])]
 ·rw [h _ (by simp [Op.operands])]
 ·rw [h _ (by simp [Op.operands])]
 ·rw [h _ (by simp [Op.operands])]
 ·rw [h _ (by simp [Op.operands]),h _ (by simp [Op.operands])]
 ·rw [h _ (by simp [Op.operands]),h _ (by simp [Op.operands])]
 ·rw [h _ (by simp [Op.operands]),h _ (by simp [Op.operands])]
 ·rw [h _ (by simp [Op.operands])]
 ·rw [h _ (by simp [Op.operands])]
 ·rename_i t ps
  simp only [a2n]
  have e:∀pl l,a0a g pl ps.toList l=a0a g' pl ps.toList l:=fun pl l=>a3b fun p hp=>h p.2 (by simp only [Op.operands];simp;exact ⟨p.1,by simpa using hp⟩)
  simp only [e]
 ·rename_i t n ps
  simp only [E4]
  have e:∀pl l,a0a g pl ps.toList l=a0a g' pl ps.toList l:=fun pl l=>a3b fun p hp=>h p.2 (by simp only [Op.operands];simp;exact ⟨p.1,by simpa using hp⟩)
  simp only [e]
 ·rw [h _ (by simp [Op.operands])]
 ·rename_i t x lo hi
  rw [h x (by simp [Op.operands])]
  have e1:Q9 g lo=Q9 g' lo:=by cases lo with
   | none=>rfl
   | some y=>rw [Q9,Q9,h y (by simp [Op.operands])]
  have e2:Q9 g hi=Q9 g' hi:=by cases hi with
   | none=>rfl
   | some y=>rw [Q9,Q9,h y (by simp [Op.operands])]
  rw [e1,e2]
 ·rw [h _ (by simp [Op.operands,Call.operands])]
 ·rename_i f args ts
  rw [U3 fun x hx=>h x (by simp [Op.operands,Call.operands];right;simpa using hx)]
 ·rw [h _ (by simp [Op.operands]),h _ (by simp [Op.operands])]
 ·rename_i args ts
  rw [U3 fun x hx=>h x (by simp [Op.operands,Call.operands];simpa using hx)]
 ·rename_i args ts
  rw [U3 fun x hx=>h x (by simp [Op.operands,Call.operands];simpa using hx)]
 ·rw [h _ (by simp [Op.operands])]
 ·rename_i f cs
  rw [U3 fun x hx=>h x (by simp [Op.operands];simpa using hx)]
 ·rename_i i args ts
  rw [U3 fun x hx=>h x (by simp [Op.operands,Call.operands];right;simpa using hx),h (.tmp i) (by simp [Op.operands,Call.operands])]
 ·rfl
theorem a4W:∀ {l:List Operand} {t:Nat},Operand.tmp t∈l→t∈tmps l
 | [],t,h=>by simp at h
 | x::l,t,h=>by
  rcases c9e.1 h with rfl|h
  ·simp [tmps]
  ·have h2:=a4W h
   cases x <;> simp [tmps,h2]
def l6 (a:Ar) (dsts:List (Option Nat)) (o:Oper) (s:S) (K:S→Prop):Prop:=run a false dsts [o] s K
theorem a1Y {l:List V} {i j:Nat} {v:V} (h:i≠j):n6 (E6 l i v) j=n6 l j:=by
 rw [a0q]
 rcases a2Q l j with h1|⟨h1,h2⟩
 ·rcases a2Q (l.set i v) j with h3|⟨h3,h4⟩
  ·rw [c9p h,h1] at h3
   injection h3 with h3
   exact h3.symm
  ·rw [c9u] at h3
   have:=(c8S.1 h1).1
   omega
 ·rcases a2Q (l.set i v) j with h3|⟨h3,h4⟩
  ·rw [c9p h] at h3
   have:=(c8S.1 h3).1
   omega
  ·rw [h4,h2]
theorem a1Z {s:S} {d e:Option Nat} {u v:V} (h:∀x,d=some x→e≠some x):(s.put d u).put e v=(s.put e v).put d u:=by
 cases d with
 | none=>rfl
 | some x =>
  cases e with
  | none=>rfl
  | some y =>
   have hne:x≠y:=fun e=>h x rfl (by rw [e])
   simp only [S.put,a0q]
   congr 1
   exact List.set_comm _ _ hne
def a2a (l:List Nat) (s s':S):Prop:=s'.o=s.o∧∀t∈l,n6 s'.t t=n6 s.t t
theorem J6 {l:List Nat} {s:S} {d:Option Nat} {v:V} (h:∀x,d=some x→x∉l):a2a l s (s.put d v):=by
 cases d with
 | none=>exact ⟨rfl,fun _ _=>rfl⟩
 | some x=>exact ⟨rfl,fun t ht=>a1Y fun e=>h x rfl (e ▸ ht)⟩
theorem a2a.symm {l:List Nat} {s s':S} (h:a2a l s s'):a2a l s' s:=⟨h.1.symm,fun t ht=>(h.2 t ht).symm⟩
theorem a2a.ops {l:List Nat} {s s':S} (h:a2a l s s') {xs:List Operand} (hx:∀t∈tmps xs,t∈l):∀x∈xs,s'.get x=s.get x:=fun x hxm=>by
 cases x with
 | tmp t=>exact h.2 t (hx t (a4W hxm))
 | const v=>rfl
 | global g=>rfl
 | func f=>rfl
theorem a7M {dsts:List (Option Nat)} {s s':S} {j:Nat} {K:Option Bool→Prop} (h:∀d,getD dsts j=some d→n6 s'.t d=n6 s.t d):guard s' dsts j K=guard s dsts j K:=by
 unfold guard
 cases hd:getD dsts j with
 | none=>rfl
 | some d=>simp only [h d hd]
theorem a1n {dsts:List (Option Nat)} {s:S} {j:Nat} {K:Option Bool→Prop} (h:guard s dsts j K):∃c,K c∧∀K',K' c→guard s dsts j K':=by
 unfold guard at h ⊢
 repeat' split at h
 all_goals first|exact h.elim|exact ⟨_,h,fun K' hk=>by simp only [*]⟩
theorem a4X {dsts:List (Option Nat)} {o:Oper} (hc:a4V o.op=true) {s:S} {K:S→Prop} (h:l6 f7 dsts o s K):∃v,K (s.put o.dst v)∧∀s' K',a2a (v6 dsts o) s s'→K' (s'.put o.dst v)→l6 f7 dsts o s' K':=by
 obtain ⟨dst,op,type,pos,after,gd⟩:=o
 have hst:∀ {s s':S} {K:S→Prop} {l:List Nat},(∀t∈tmps op.operands.toList,t∈l)→a2a l s s'→C9 f7 false s dst K op→∃v,K (s.put dst v)∧∀K',K' (s'.put dst v)→C9 f7 false s' dst K' op:=fun {s s' K l} hl hs h=>by
  rw [G0 hc] at h
  obtain ⟨v,h1,h2⟩:=a1X _ h
  refine ⟨v,h1,fun K' hk=>?_⟩
  rw [G0 hc,hs.1]
  have e:=a15 (a:=f7) (os:=s.o) (K:=fun v=>K' (s'.put dst v)) (op:=op) (g:=s.get) (g':=s'.get) fun x hx=>((hs.ops (xs:=op.operands.toList) hl) x (by simpa using hx)).symm
  rw [←e]
  exact h2 _ hk
 cases gd with
 | none =>
  have hl:∀t∈tmps op.operands.toList,t∈v6 dsts ⟨dst,op,type,pos,after,none⟩:=fun t ht=>by simp [v6,ht]
  have h':C9 f7 false s dst K op:=h
  rw [G0 hc] at h'
  obtain ⟨v,h1,h2⟩:=a1X _ h'
  refine ⟨v,h1,fun s' K' hs hk=>?_⟩
  show C9 f7 false s' dst K' op
  rw [G0 hc,hs.1]
  have e:=a15 (a:=f7) (os:=s.o) (K:=fun v=>K' (s'.put dst v)) (op:=op) (g:=s.get) (g':=s'.get) fun x hx=>((hs.ops (xs:=op.operands.toList) hl) x (by simpa using hx)).symm
  rw [←e]
  exact h2 _ hk
 | some jb =>
  obtain ⟨j,b⟩:=jb
  have hl:∀t∈tmps op.operands.toList,t∈v6 dsts ⟨dst,op,type,pos,after,some (j,b)⟩:=fun t ht=>by simp [v6,ht]
  have hg:∀s',a2a (v6 dsts ⟨dst,op,type,pos,after,some (j,b)⟩) s s'→∀d,getD dsts j=some d→n6 s'.t d=n6 s.t d:=fun s' hs d hd=>hs.2 d (by simp [v6,hd])
  have h':guard s dsts j (fun
   | some c=>match bEq c b with
    | true=>C9 f7 false s dst K op
    | false=>K (s.put dst Z6)
   | none=>K (s.put dst Z6)):=h
  have a2P:∀(c:Option Bool) {s':S} {K':S→Prop},(∀K',K' c→guard s dsts j K')→a2a (v6 dsts ⟨dst,op,type,pos,after,some (j,b)⟩) s s'→(match c with
   | some c=>match bEq c b with
    | true=>C9 f7 false s' dst K' op
    | false=>K' (s'.put dst Z6)
   | none=>K' (s'.put dst Z6))→l6 f7 dsts ⟨dst,op,type,pos,after,some (j,b)⟩ s' K':=fun c {s' K'} h2 hs hx=>by
   show guard s' dsts j (fun
    | some c=>match bEq c b with
     | true=>C9 f7 false s' dst K' op
     | false=>K' (s'.put dst Z6)
    | none=>K' (s'.put dst Z6))
   rw [a7M (hg s' hs)]
   exact h2 _ hx
  obtain ⟨c,h1,h2⟩:=a1n h'
  cases c with
  | none=>exact ⟨Z6,h1,fun s' K' hs hk=>a2P none h2 hs hk⟩
  | some c =>
   cases hb:bEq c b with
   | false =>
    simp only [hb] at h1
    exact ⟨Z6,h1,fun s' K' hs hk=>a2P (some c) h2 hs (by simp only [hb];exact hk)⟩
   | true =>
    simp only [hb] at h1
    rw [G0 hc] at h1
    obtain ⟨v,h3,h4⟩:=a1X _ h1
    refine ⟨v,h3,fun s' K' hs hk=>a2P (some c) h2 hs ?_⟩
    simp only [hb]
    rw [G0 hc,hs.1]
    have e:=a15 (a:=f7) (os:=s.o) (K:=fun v=>K' (s'.put dst v)) (op:=op) (g:=s.get) (g':=s'.get) fun x hx=>((hs.ops (xs:=op.operands.toList) hl) x (by simpa using hx)).symm
    rw [←e]
    exact h4 _ hk
theorem b2c {a:Ar} {g:Operand→V} {os os':List O} {K:V→Prop} {op:Op} (h:a4k op=true):E9 a g os K op=E9 a g os' K op:=by
 unfold E9
 split <;> first|rfl|cases h
theorem a7N {op:Op} (h:a4k op=true):a4V op=true:=by
 cases op <;> first|rfl|cases h
def a7O (l:List Nat) (s s':S):Prop:=∀t∈l,n6 s'.t t=n6 s.t t
theorem a0v (t:List V) (o o':List O) (d:Option Nat) (v:V):(⟨(S.put ⟨t,o⟩ d v).t,o'⟩:S)=S.put ⟨t,o'⟩ d v:=by cases d <;> rfl
theorem b6k {dsts:List (Option Nat)} {x:Oper} (hb:a4k x.op=true) {t:List V} {o o':List O} {K:S→Prop} (h:l6 f7 dsts x ⟨t,o⟩ (fun r=>K ⟨r.t,o'⟩)):l6 f7 dsts x ⟨t,o'⟩ K:=by
 obtain ⟨dst,op,type,pos,after,gd⟩:=x
 have hst:C9 f7 false ⟨t,o⟩ dst (fun r=>K ⟨r.t,o'⟩) op→C9 f7 false ⟨t,o'⟩ dst K op:=fun h=>by
  rw [G0 (a7N hb)] at h ⊢
  simp only [a0v] at h
  rw [b2c (os':=o') hb] at h
  exact h
 cases gd with
 | none=>exact hst h
 | some jb =>
  obtain ⟨j,b⟩:=jb
  have h':guard ⟨t,o⟩ dsts j (fun
   | some c=>match bEq c b with
    | true=>C9 f7 false ⟨t,o⟩ dst (fun r=>K ⟨r.t,o'⟩) op
    | false=>K ⟨(S.put ⟨t,o⟩ dst Z6).t,o'⟩
   | none=>K ⟨(S.put ⟨t,o⟩ dst Z6).t,o'⟩):=h
  show guard ⟨t,o'⟩ dsts j (fun
   | some c=>match bEq c b with
    | true=>C9 f7 false ⟨t,o'⟩ dst K op
    | false=>K (S.put ⟨t,o'⟩ dst Z6)
   | none=>K (S.put ⟨t,o'⟩ dst Z6))
  obtain ⟨c,h1,h2⟩:=a1n h'
  refine (a7M (s:=⟨t,o⟩) (s':=⟨t,o'⟩) fun d _=>rfl).mpr (h2 _ ?_)
  cases c with
  | none=>rw [a0v] at h1;exact h1
  | some c =>
   cases hb:bEq c b with
   | true=>simp only [hb] at h1 ⊢;exact hst h1
   | false=>simp only [hb,a0v] at h1 ⊢;exact h1
theorem a4Y {dsts:List (Option Nat)} {x:Oper} (hb:a4k x.op=true) {s:S} {K:S→Prop} (h:l6 f7 dsts x s K):∃v,K (s.put x.dst v)∧∀s' K',a7O (v6 dsts x) s s'→K' (s'.put x.dst v)→l6 f7 dsts x s' K':=by
 obtain ⟨v,h1,h2⟩:=a4X (a7N hb) h
 refine ⟨v,h1,fun s' K' hs hk=>?_⟩
 exact b6k hb (t:=s'.t) (o:=s.o) (o':=s'.o) (h2 ⟨s'.t,s.o⟩ _ ⟨rfl,hs⟩ (by rw [a0v];exact hk))
theorem a5S {s:S} {K:S→Prop} {t:Nat} {y x:V} (h:J5 f7 s K t y x):∃o',K ⟨s.t,o'⟩∧∀(t':List V) (K':S→Prop),K' ⟨t',o'⟩→J5 f7 ⟨t',s.o⟩ K' t y x:=by
 simp only [J5] at h ⊢
 repeat' split at h
 all_goals first|exact h.elim|exact ⟨_,h,fun t' K' hk=>by simp only [*]⟩
def b31:Op→Bool
 | .store _ _ _=>true
 | _=>false
theorem a7P {dsts:List (Option Nat)} {y:Oper} (hb:(b31 y.op && y.guard.isNone && y.dst.isNone)=true) {s:S} {K:S→Prop} (h:l6 f7 dsts y s K):∃o',K ⟨s.t,o'⟩∧∀s' K',s'.o=s.o→a7O (v6 dsts y) s s'→K' ⟨s'.t,o'⟩→l6 f7 dsts y s' K':=by
 obtain ⟨dst,op,type,pos,after,gd⟩:=y
 cases gd <;> cases dst <;> cases op <;> first|(simp [b31] at hb;done)|skip
 rename_i t x z
 have h':J5 f7 s K t (s.get z) (s.get x):=h
 obtain ⟨o',h1,h2⟩:=a5S h'
 refine ⟨o',h1,fun s' K' ho hs hk=>?_⟩
 show J5 f7 s' K' t (s'.get z) (s'.get x)
 have hS:a2a (v6 dsts ⟨none,.store t x z,type,pos,after,none⟩) s ⟨s'.t,s.o⟩:=⟨rfl,hs⟩
 have hg:∀y∈(Op.store t x z).operands.toList,(⟨s'.t,s.o⟩:S).get y=s.get y:=hS.ops fun u hu=>by simp [v6,hu]
 have e1:s'.get z=s.get z:=by
  have:=hg z (by simp [Op.operands])
  cases z <;> first|rfl|exact this
 have e2:s'.get x=s.get x:=by
  have:=hg x (by simp [Op.operands])
  cases x <;> first|rfl|exact this
 rw [e1,e2]
 have:=h2 s'.t K' hk
 rw [←ho] at this
 exact this
def b32 (dsts:List (Option Nat)) (x y:Oper):Bool:=a4V x.op && a4V y.op && J8 x.dst (v6 dsts y) && J8 y.dst (v6 dsts x) && (x.dst.isNone || x.dst != y.dst)
theorem H6 {d:Option Nat} {l:List Nat} (h:J8 d l=true):∀x,d=some x→x∉l:=fun x e=>by
 subst e
 simpa [J8] using h
theorem c6c {dsts:List (Option Nat)} {x y:Oper} (h:b32 dsts x y=true) {s:S} {K:S→Prop} (hx:l6 f7 dsts x s fun s=>l6 f7 dsts y s K):l6 f7 dsts y s fun s=>l6 f7 dsts x s K:=by
 simp only [b32,c8Z,c96,bne_iff_ne,ne_eq] at h
 obtain ⟨⟨⟨⟨c1,c2⟩,n1⟩,n2⟩,n3⟩:=h
 obtain ⟨v1,h1,h2⟩:=a4X c1 hx
 obtain ⟨v2,h3,h4⟩:=a4X c2 h1
 refine h4 s _ (J6 (H6 n1)).symm (h2 _ _ (J6 (H6 n2)) ?_)
 rw [a1Z fun z hz e=>?_]
 ·exact h3
 ·rcases n3 with n3|n3
  ·rw [d0K] at n3
   rw [n3] at e;cases e
  ·exact n3 (by rw [e,hz])
def b2d (o:Oper):Bool:=b31 o.op && o.guard.isNone && o.dst.isNone
def a37 (dsts:List (Option Nat)) (x y:Oper):Bool:=a4k x.op && b2d y && J8 x.dst (v6 dsts y)
def a96:Op→Bool
 | .call ⟨.builtin .append,⟨[_,_]⟩,⟨[_,_]⟩⟩=>true
 | _=>false
def b89:Op→Bool
 | .move _=>true
 | .nilCheck _=>true
 | .fieldAddr _ _ _=>true
 | _=>false
def c1z:Op→Bool
 | .alloc _=>true
 | _=>false
def c31:Op→Bool
 | .move _=>true
 | .assign _=>true
 | .pick _ _ _=>true
 | .load _ _=>true
 | .fieldAddr _ _ _=>true
 | .field _ _ _=>true
 | .indexAddr _ _ _=>true
 | .index _ _ _=>true
 | .binOp _ _ _ _ _=>true
 | .unOp _ _ _=>true
 | .convert _ _ _=>true
 | .build _ _=>true
 | .extract _ _=>true
 | .nilCheck _=>true
 | _=>false
def b8A:Op→Bool
 | .buildSlice _ 0 ⟨[]⟩=>true
 | _=>false
def b0F:Op→Bool
 | .load t _=>(ty t).agg
 | .build _ _=>true
 | .buildSlice _ (_+1) _=>true
 | _=>false
def b0G (dsts:List (Option Nat)) (x y:Oper):Bool:=(a96 x.op || b8A x.op) && x.guard.isNone && x.dst.isSome && (b89 y.op || b0F y.op) && y.guard.isNone && J8 x.dst (v6 dsts y) && J8 y.dst (v6 dsts x) && (y.dst.isNone || x.dst != y.dst)
def b33 (dsts:List (Option Nat)) (x y:Oper):Bool:=c31 x.op && x.guard.isNone && c1z y.op && y.guard.isNone && J8 y.dst (v6 dsts x) && (x.dst.isNone || x.dst != y.dst)
def c4v:Op→Bool
 | .move _=>true
 | _=>false
def b34 (dsts:List (Option Nat)) (x y:Oper):Bool:=c4v x.op && x.guard.isNone && a96 y.op && y.guard.isNone && y.dst.isSome && J8 x.dst (v6 dsts y) && J8 y.dst (v6 dsts x) && (x.dst.isNone || x.dst != y.dst)
def b8B (dsts:List (Option Nat)) (x y:Oper):Bool:=b32 dsts x y || a37 dsts x y || a37 dsts y x || b0G dsts x y || b33 dsts x y || b34 dsts x y
def klT:Option Nat→List V→List V
 | none,t=>t
 | some k,t=>H3 k t
def klV:Option Nat→V→V
 | none,v=>v
 | some k,v=>E3 k v
theorem a7Q (k:Nat):∀l:List O,m7 (B7 k l)=m7 l:=fun l=>by rw [o9,o9,T9]
theorem a4Z {o:O}:∀ {l:List O} {k:Nat},k≠m7 l→y6 (r9 l o) k=y6 l k
 | [],0,h=>absurd rfl h
 | [],k+1,_=>rfl
 | _::_,0,_=>rfl
 | _::l,k+1,h=>a4Z (l:=l) fun e=>h (by rw [m7,e])
theorem a3U {o:O}:∀ {l:List O},y6 (r9 l o) (m7 l)=o
 | []=>rfl
 | _::l=>a3U (l:=l)
def a4m (k:Nat) (os o':List O):Prop:=(∀j,j≠k→y6 o' j=y6 (B7 k os) j)∧∀cs,y6 o' k≠.box cs
theorem a6x {os:List O} {z:Bool} {e:Nat} {r:List (List D)}:a4m (m7 os) os (r9 (B7 (m7 os) os) (.row z e r)) :=
 ⟨fun j hj=>a4Z (by rw [a7Q];exact hj),fun cs h=>by
  have h1:y6 (r9 (B7 (m7 os) os) (.row z e r)) (m7 (B7 (m7 os) os))=_:=a3U
  rw [a7Q,h] at h1
  cases h1⟩
theorem a5a {o:O}:∀ {l:List O} {m j:Nat},j≠m→y6 (G8 l m o) j=y6 l j
 | [],m,j,_=>rfl
 | _::_,0,0,h=>absurd rfl h
 | _::_,0,_+1,_=>rfl
 | _::_,_+1,0,_=>rfl
 | _::l,m+1,j+1,h=>a5a (l:=l) fun e=>h (by rw [e])
theorem a5b {o:O}:∀ {l:List O} {m:Nat},y6 (G8 l m o) m=o∨y6 (G8 l m o) m=.dead
 | [],m=>.inr (by cases m <;> rfl)
 | _::_,0=>.inl rfl
 | _::l,m+1=>a5b (l:=l)
theorem b35 {k:Nat} {os:List O} {z:Bool} {e:Nat} {r:List (List D)}:a4m k os (G8 (B7 k os) k (.row z e r)) :=
 ⟨fun j hj=>a5a hj,fun cs h=>by
  rcases a5b (l:=B7 k os) (m:=k) (o:=.row z e r) with h1|h1 <;> rw [h1] at h <;> cases h⟩
theorem a7R {s:S} {d:Nat} {K:S→Prop} {t:Nat} {x y:V} (h:J1 f7 false s (some d) K t x y):∃(k:Nat) (o':List O),a4m k s.o o'∧K (S.put ⟨H3 k s.t,o'⟩ (some d) (.own k))∧∀(t':List V) (K':S→Prop),K' (S.put ⟨H3 k t',o'⟩ (some d) (.own k))→J1 f7 false ⟨t',s.o⟩ (some d) K' t x y:=by
 unfold J1 at h
 repeat' split at h
 all_goals first|exact h.elim|skip
 ·rename_i e he _ sz ys hys _ hsz _
  obtain ⟨h1,z,h2⟩:=h
  refine ⟨m7 s.o,r9 (B7 (m7 s.o) s.o) (.row z e ys),a6x,h2,fun t' K' hk=>?_⟩
  unfold J1
  simp only [he,hys,hsz]
  exact ⟨h1,z,hk⟩
 ·rename_i e he _ sz ys hys _ hsz _ k _ z e' xs hok _ hee
  obtain ⟨h1,h2⟩:=h
  refine ⟨k,_,b35,h2,fun t' K' hk=>?_⟩
  unfold J1
  simp only [he,hys,hsz,hok,hee]
  exact ⟨h1,hk⟩
theorem a98 {s:S} {d:Nat} {K:S→Prop} {t:Nat} {x y:V} (h:J1 f7 false s (some d) K t x y):∃(kk:Option Nat) (o':List O) (k':Nat),K (S.put ⟨klT kk s.t,o'⟩ (some d) (.own k'))∧∀(t':List V) (K':S→Prop),K' (S.put ⟨klT kk t',o'⟩ (some d) (.own k'))→J1 f7 false ⟨t',s.o⟩ (some d) K' t x y:=by
 obtain ⟨k,o',_,h1,h2⟩:=a7R h
 exact ⟨some k,o',k,h1,h2⟩
theorem c4w {s:S} {d:Nat} {K:S→Prop} {op:Op} (hb:(a96 op || b8A op)=true) (h:C9 f7 false s (some d) K op):∃(k:Nat) (o':List O),a4m k s.o o'∧K (S.put ⟨H3 k s.t,o'⟩ (some d) (.own k))∧∀(t':List V) (K':S→Prop),(∀z∈op.operands,S.get ⟨t',s.o⟩ z=s.get z)→K' (S.put ⟨H3 k t',o'⟩ (some d) (.own k))→C9 f7 false ⟨t',s.o⟩ (some d) K' op:=by
 cases ha:a96 op with
 | true =>
  unfold a96 at ha
  split at ha
  ·rename_i p q t t'
   have h':J1 f7 false s (some d) K t (s.get p) (s.get q):=h
   obtain ⟨k,o',h1,h2,h3⟩:=a7R h'
   refine ⟨k,o',h1,h2,fun t2 K' hz hk=>?_⟩
   show J1 f7 false ⟨t2,s.o⟩ (some d) K' t (S.get ⟨t2,s.o⟩ p) (S.get ⟨t2,s.o⟩ q)
   rw [hz p (by simp [Op.operands,Call.operands]),hz q (by simp [Op.operands,Call.operands])]
   exact h3 _ _ hk
  ·cases ha
 | false =>
  rw [ha,Bool.false_or] at hb
  unfold b8A at hb
  split at hb
  ·rename_i t
   have h':(match (ty t).elem with|some e=>f7.new e fun z=>K ((s.fresh false (.row z e [])).put (some d) (.own (m7 s.o)))|none=>False):=h
   cases he:(ty t).elem with
   | none=>rw [he] at h';exact h'.elim
   | some e =>
    rw [he] at h'
    obtain ⟨z,h'⟩:=h'
    refine ⟨m7 s.o,_,a6x,h',fun t2 K' _ hk=>?_⟩
    show (match (ty t).elem with|some e=>f7.new e fun z=>K' ((S.fresh false ⟨t2,s.o⟩ (.row z e [])).put (some d) (.own (m7 s.o)))|none=>False)
    rw [he]
    exact ⟨z,hk⟩
  ·cases hb
theorem a7S {k:Nat}:∀(n:Nat) (l:List V),L9 n (A3 k l)=A3 k (L9 n l)
 | 0,l=>rfl
 | n+1,[]=>rfl
 | n+1,x::l=>a7S n l
theorem a7T {k:Nat}:∀ {n:Nat} {l l':List V},J4 n (A3 k l)=some l'→∃m,J4 n l=some m∧l'=A3 k m
 | 0,l,l',h=>by
  have h:some []=some l':=by cases l <;> exact h
  injection h with h
  exact ⟨[],by cases l <;> rfl,h.symm⟩
 | n+1,[],l',h=>by cases h
 | n+1,x::l,l',h=>by
  rw [A3,J4] at h
  cases e:J4 n (A3 k l) with
  | none=>rw [e] at h;cases h
  | some m' =>
   rw [e] at h
   injection h with h
   obtain ⟨m,h1,h2⟩:=a7T e
   exact ⟨x::m,by rw [J4,h1],by rw [←h,h2];rfl⟩
theorem a5T {k:Nat}:∀l:List D,A3 k (y5 l)=y5 l
 | []=>rfl
 | x::l=>by rw [y5,A3,a5T l];rfl
theorem a0R {k:Nat}:∀l:List Value,A3 k (F4 l)=F4 l
 | []=>rfl
 | v::l=>by
  rw [F4,A3,a0R l]
  congr 1
  unfold a5D
  split <;> rfl
theorem a99 {k:Nat}:∀l m:List V,A3 k (l++m)=A3 k l++A3 k m
 | [],m=>rfl
 | x::l,m=>by rw [c9G,A3,a99 l m];rfl
theorem a6y {k:Nat} (z:List Value):∀(n:Nat) (acc:List V),A3 k (a3R (F4 z) n acc)=a3R (F4 z) n (A3 k acc)
 | 0,acc=>rfl
 | n+1,acc=>by rw [a3R,a6y z n,a99,a0R];rfl
theorem a3V {k:Nat}:∀ {l:List O} {j:Nat} {cs:List V},y6 (B7 k l) j=.box cs→∃ds,y6 l j=.box ds∧cs=A3 k ds
 | [],j,cs,h=>by cases j <;> cases h
 | x::l,0,cs,h=>by
  cases x <;> rw [B7] at h <;> first|(cases h;done)|skip
  ·rename_i ds
   injection h with h
   exact ⟨ds,rfl,h.symm⟩
 | x::l,j+1,cs,h=>by
  have h:y6 (B7 k l) j=.box cs:=by cases x <;> exact h
  exact a3V (l:=l) h
theorem a1H {k:Nat}:∀ {l:List O} {j:Nat} {z:Bool} {e:Nat} {r:List (List D)},y6 (B7 k l) j=.row z e r→y6 l j=.row z e r
 | [],j,z,e,r,h=>by cases j <;> cases h
 | x::l,0,z,e,r,h=>by
  cases x <;> first|(cases h;done)|exact h
 | x::l,j+1,z,e,r,h=>by
  have h:y6 (B7 k l) j=.row z e r:=by cases x <;> exact h
  exact a1H (l:=l) h
theorem b6l {k:Nat} {x:V} (h:b5Y (a7l k x)=true):b5Y x=true:=by
 cases x <;> first|rfl|exact h
theorem a9A {k:Nat}:∀ {l:List V},a3N (A3 k l)=true→a3N l=true
 | [],_=>rfl
 | x::l,h=>by
  rw [A3,a3N] at h
  rw [a3N]
  cases e:b5Y (a7l k x) with
  | false=>rw [e] at h;cases h
  | true=>rw [e] at h;rw [b6l e];exact a9A h
theorem b36 {k:Nat} {v:V} {cs:List V} (h:a1j (E3 k v)=some cs):∃ds,a1j v=some ds∧cs=A3 k ds:=by
 cases v with
 | ag l =>
  have h:(match a3N (A3 k l) with|true=>some (A3 k l)|false=>none)=some cs:=h
  cases e:a3N (A3 k l) with
  | false=>rw [e] at h;cases h
  | true =>
   rw [e] at h
   injection h with h
   exact ⟨l,by rw [a1j,a9A e],h.symm⟩
 | tu l=>cases l <;> cases h
 | own j =>
  have h:a1j (match L7 j k with|true=>.jk|false=>.own j)=some cs:=h
  refine ⟨[.own j],rfl,?_⟩
  show cs=[match L7 j k with|true=>.jk|false=>.own j]
  cases e:L7 j k with
  | true=>rw [e] at h;cases h
  | false=>rw [e] at h;injection h with h;exact h.symm
 | el j i z o =>
  have h:a1j (match L7 j k with|true=>.jk|false=>.el j i z o)=some cs:=h
  refine ⟨[.el j i z o],rfl,?_⟩
  show cs=[match L7 j k with|true=>.jk|false=>.el j i z o]
  cases e:L7 j k with
  | true=>rw [e] at h;cases h
  | false=>rw [e] at h;injection h with h;exact h.symm
 | jk=>cases h
 | _=>exact ⟨_,rfl,by injection h with h;exact h.symm⟩
theorem a9B {k:Nat}:∀l:List V,C4 (A3 k l)=C4 l
 | []=>rfl
 | x::l=>by rw [A3,C4,a9B l,C4]
theorem a3c {k:Nat}:∀ {l:List V} {n:Nat} {ys l':List V},splice (A3 k l) n (A3 k ys)=some l'→∃m,splice l n ys=some m∧l'=A3 k m
 | l,0,[],l',h=>by
  have h:some (A3 k l)=some l':=by cases l <;> exact h
  injection h with h
  exact ⟨l,by cases l <;> rfl,h.symm⟩
 | x::l,0,y::ys,l',h=>by
  rw [A3,A3,splice] at h
  cases e:splice (A3 k l) 0 (A3 k ys) with
  | none=>rw [e] at h;cases h
  | some m' =>
   rw [e] at h
   injection h with h
   obtain ⟨m,h1,h2⟩:=a3c e
   exact ⟨y::m,by rw [splice,h1],by rw [←h,h2];rfl⟩
 | x::l,n+1,ys,l',h=>by
  have h:(match splice (A3 k l) n (A3 k ys) with|some t=>some (a7l k x::t)|none=>none)=some l':=by rw [←h,A3,splice];cases splice (A3 k l) n (A3 k ys) <;> rfl
  cases e:splice (A3 k l) n (A3 k ys) with
  | none=>rw [e] at h;cases h
  | some m' =>
   rw [e] at h
   injection h with h
   obtain ⟨m,h1,h2⟩:=a3c e
   refine ⟨x::m,?_,by rw [←h,h2];rfl⟩
   have h3:splice (x::l) (n+1) ys=(match splice l n ys with|some t=>some (x::t)|none=>none):=by rw [splice];cases splice l n ys <;> rfl
   rw [h3,h1]
 | [],n+1,ys,l',h=>by cases ys <;> cases h
 | [],0,y::ys,l',h=>by cases h
theorem a2w {k:Nat} {g g':Operand→V} {place:List (Nat×Nat)}:∀ {ps:List (Nat×Operand)} {l l':List V},(∀p∈ps,g' p.2=E3 k (g p.2))→a0a g' place ps (A3 k l)=some l'→∃m,a0a g place ps l=some m∧l'=A3 k m
 | [],l,l',_,h=>⟨l,rfl,by injection h with h;exact h.symm⟩
 | (i,x)::ps,l,l',hg,h=>by
  rw [a0a] at h ⊢
  split at h <;> try (cases h;done)
  rename_i off sz hp
  rw [hg _ (c8V ..)] at h
  split at h <;> try (cases h;done)
  rename_i cs hc
  obtain ⟨ds,h1,rfl⟩:=b36 hc
  rw [a9B] at h
  simp only [hp,h1]
  split at h <;> try (cases h;done)
  rename_i hl
  split at h <;> try (cases h;done)
  rename_i l2 h2
  obtain ⟨m2,h3,rfl⟩:=a3c h2
  simp only [hl,h3]
  exact a2w (fun p hp=>hg p (c8X _ hp)) h
theorem b8C {k:Nat} {os o':List O} (hB:a4m k os o') {x:V} {y:D} (h:toD o' (a7l k x)=some y):toD os x=some y:=by
 cases x with
 | own j =>
  have h:toD o' (match L7 j k with|true=>.jk|false=>.own j)=some y:=h
  cases e:L7 j k with
  | true=>rw [e] at h;cases h
  | false =>
   rw [e] at h
   have h:(match y6 o' j with|.row true e rows=>some (D.sl (ty e).sz rows)|_=>none)=some y:=h
   rw [hB.1 j (a2R.1 e)] at h
   show (match y6 os j with|.row true e rows=>some (D.sl (ty e).sz rows)|_=>none)=some y
   split at h
   ·rename_i e2 rows h2
    rw [a1H h2]
    exact h
   ·cases h
 | el j i z o =>
  have h:toD o' (match L7 j k with|true=>.jk|false=>.el j i z o)=some y:=h
  cases e:L7 j k <;> rw [e] at h <;> cases h
 | cl f ks=>cases ks <;> exact h
 | _=>exact h
theorem a9C {k:Nat} {os o':List O} (hB:a4m k os o'):∀ {l:List V} {ds:List D},a4f o' (A3 k l)=some ds→a4f os l=some ds
 | [],ds,h=>h
 | x::l,ds,h=>by
  rw [A3,a4f] at h
  rw [a4f]
  split at h <;> try (cases h;done)
  rename_i y hy
  split at h <;> try (cases h;done)
  rename_i ys hys
  rw [b8C hB hy,a9C hB hys]
  exact h
theorem a5U {k:Nat} {v:V}:∀ {l:List V} {i:Nat},H3 k (E6 l i v)=E6 (H3 k l) i (E3 k v)
 | [],i=>rfl
 | _::_,0=>rfl
 | x::l,i+1=>by rw [E6,H3,a5U (l:=l),H3,E6]
theorem a1c {k:Nat}:∀ {l:List V} {i:Nat},n6 (H3 k l) i=E3 k (n6 l i)
 | [],i=>rfl
 | _::_,0=>rfl
 | x::l,i+1=>by rw [H3,n6,n6,a1c (l:=l)]
theorem c14 {kk:Option Nat} {v:V} {l:List V} {i:Nat}:klT kk (E6 l i v)=E6 (klT kk l) i (klV kk v):=by cases kk <;> first|rfl|exact a5U
theorem b4H {kk:Option Nat} {s:S} {d:Option Nat} {v:V} {o:List O}:(⟨klT kk (s.put d v).t,o⟩:S)=S.put ⟨klT kk s.t,o⟩ d (klV kk v):=by
 cases d with
 | none=>rfl
 | some d=>simp only [S.put,c14]
theorem b4I {kk:Option Nat} {s:S} {o:List O} (x:Operand):(⟨klT kk s.t,o⟩:S).get x=klV kk (s.get x):=by
 cases kk with
 | none=>cases x <;> rfl
 | some k =>
  cases x with
  | tmp i=>exact a1c
  | const v=>cases v <;> first|rfl|(simp only [S.get,klV];unfold a5D;split <;> rfl)
  | global g=>rfl
  | func f=>rfl
theorem c15 {kk:Option Nat} {g g':Operand→V} {os os':List O} {op:Op} (hb:b89 op=true) (hg:∀x∈op.operands,g' x=klV kk (g x)) {K:V→Prop} (h:E9 f7 g' os' K op):∃v,K (klV kk v)∧∀K',K' v→E9 f7 g os K' op:=by
 have keep:∀ {v w:V},klV kk v=w→((∃k o,w=.ptr k o)∨(∃f ks,w=.cl f ks)∨(∃k i z o,w=.el k i z o)∨∃cs o,w=.ro cs o)→v=w:=fun {v w} e hw=>by
  cases kk with
  | none=>exact e
  | some k =>
   have e:E3 k v=w:=e
   cases v with
   | ag cs=>subst e;simp [E3] at hw
   | tu cs=>subst e;cases cs <;> simp [E3] at hw
   | own j =>
    subst e
    have e2:E3 k (.own j)=match L7 j k with|true=>.jk|false=>.own j:=rfl
    rw [e2] at hw
    cases he:L7 j k <;> rw [he] at hw <;> simp at hw
   | el j i z o =>
    subst e
    have e2:E3 k (.el j i z o)=match L7 j k with|true=>.jk|false=>.el j i z o:=rfl
    rw [e2] at hw ⊢
    cases he:L7 j k <;> rw [he] at hw <;> simp at hw ⊢
   | _=>exact e
 cases op <;> first|cases hb;done|skip
 ·rename_i x
  rw [show E9 f7 g' os' K (.move x)=K (g' x) from rfl,hg x (by simp [Op.operands])] at h
  exact ⟨_,h,fun K' hk=>hk⟩
 ·rename_i x
  rw [show E9 f7 g' os' K (.nilCheck x)=nnV K (g' x) from rfl] at h
  have e:=hg x (by simp [Op.operands])
  generalize g' x=w at h e
  unfold nnV at h
  split at h <;> try exact h.elim
  all_goals
   have e':=keep e.symm (by simp)
   refine ⟨g x,by rw [←e];exact h,fun K' hk=>?_⟩
   show nnV K' (g x)
   rw [e'] at hk ⊢
   exact hk
 ·rename_i t x i
  rw [show E9 f7 g' os' K (.fieldAddr t x i)=N7 K t i (g' x) from rfl] at h
  have e:=hg x (by simp [Op.operands])
  generalize g' x=w at h e
  unfold N7 at h
  split at h <;> try exact h.elim
  rename_i off sz hf
  split at h <;> try exact h.elim
  ·rename_i k o
   have e':=keep e.symm (by simp)
   refine ⟨.ptr k (o+off),by cases kk <;> exact h,fun K' hk=>?_⟩
   show N7 K' t i (g x)
   unfold N7
   rw [hf,e']
   exact hk
  ·rename_i cs o
   have e':=keep e.symm (by simp)
   refine ⟨.ro cs (o+off),by cases kk <;> exact h,fun K' hk=>?_⟩
   show N7 K' t i (g x)
   unfold N7
   rw [hf,e']
   exact hk
  ·rename_i k i' z o
   have e':=keep e.symm (by simp)
   have e3:klV kk (.el k i' z (o+off))=.el k i' z (o+off):=by
    rw [e'] at e
    cases kk with
    | none=>rfl
    | some j =>
     have e4:(V.el k i' z o)=match L7 k j with|true=>V.jk|false=>V.el k i' z o:=e
     show (match L7 k j with|true=>V.jk|false=>V.el k i' z (o+off))=_
     cases he:L7 k j with
     | true=>rw [he] at e4;cases e4
     | false=>rfl
   refine ⟨.el k i' z (o+off),by rw [e3];exact h,fun K' hk=>?_⟩
   show N7 K' t i (g x)
   unfold N7
   rw [hf,e']
   exact hk
theorem c16 {k:Nat} {g g':Operand→V} {os o':List O} {op:Op} (hb:b0F op=true) (hB:a4m k os o') (hg:∀x∈op.operands,g' x=E3 k (g x)) {K:V→Prop} (h:E9 f7 g' o' K op):∃v,K (E3 k v)∧∀K',K' v→E9 f7 g os K' op:=by
 unfold b0F at hb
 split at hb
 ·rename_i t x
  rw [show E9 f7 g' o' K (.load t x)=G3 f7 o' K t (g' x) from rfl,hg x (by simp [Op.operands])] at h
  have goal:∀ {v:V} {K':V→Prop},G3 f7 os K' t (g x)→E9 f7 g os K' (.load t x):=fun h=>h
  show ∃v,K (E3 k v)∧∀K',K' v→G3 f7 os K' t (g x)
  generalize g x=u at h
  have T1:∀ {l:List V} {K:V→Prop},(match a1P (ty t).agg (A3 k l) with|some x=>K x|none=>False)→K (E3 k (.ag l)):=fun h=>by rw [hb] at h;exact h
  cases u with
  | ptr j off =>
   have h:(match y6 o' j with|.box cs=>(match J4 (ty t).sz (L9 off cs) with|some l=>(match a1P (ty t).agg l with|some x=>K x|none=>False)|none=>False)|_=>False):=h
   show ∃v,K (E3 k v)∧∀K':V→Prop,K' v→(match y6 os j with|.box cs=>(match J4 (ty t).sz (L9 off cs) with|some l=>(match a1P (ty t).agg l with|some x=>K' x|none=>False)|none=>False)|_=>False)
   split at h <;> try exact h.elim
   rename_i cs hc
   have hj:j≠k:=fun e=>hB.2 cs (by rw [←e];exact hc)
   rw [hB.1 j hj] at hc
   obtain ⟨ds,h1,rfl⟩:=a3V hc
   rw [a7S] at h
   split at h <;> try exact h.elim
   rename_i l' hl
   obtain ⟨m,h2,rfl⟩:=a7T hl
   refine ⟨.ag m,T1 h,fun K' hk=>?_⟩
   rw [h1]
   simp only [h2,hb]
   exact hk
  | ro cs off =>
   have h:(match J4 (ty t).sz (L9 off cs) with|some l=>(match a1P (ty t).agg (y5 l) with|some x=>K x|none=>False)|none=>False):=h
   show ∃v,K (E3 k v)∧∀K':V→Prop,K' v→(match J4 (ty t).sz (L9 off cs) with|some l=>(match a1P (ty t).agg (y5 l) with|some x=>K' x|none=>False)|none=>False)
   split at h <;> try exact h.elim
   rename_i l hl
   rw [←a5T (k:=k)] at h
   exact ⟨.ag (y5 l),T1 h,fun K' hk=>by simp only [hb];exact hk⟩
  | el j i z off =>
   have h:G3 f7 o' K t (match L7 j k with|true=>.jk|false=>.el j i z off):=h
   cases e:L7 j k with
   | true=>rw [e] at h;exact h.elim
   | false =>
    rw [e] at h
    have h:(match y6 o' j with|.row _ e rows=>(match L7 (ty e).sz z with|true=>(match f7.get rows i with|some row=>(match J4 (ty t).sz (L9 off row) with|some l=>(match a1P (ty t).agg (y5 l) with|some x=>K x|none=>False)|none=>False)|none=>False)|false=>False)|_=>False):=h
    show ∃v,K (E3 k v)∧∀K':V→Prop,K' v→(match y6 os j with|.row _ e rows=>(match L7 (ty e).sz z with|true=>(match f7.get rows i with|some row=>(match J4 (ty t).sz (L9 off row) with|some l=>(match a1P (ty t).agg (y5 l) with|some x=>K' x|none=>False)|none=>False)|none=>False)|false=>False)|_=>False)
    rw [hB.1 j (a2R.1 e)] at h
    split at h <;> try exact h.elim
    rename_i e' rows hr
    rw [a1H hr]
    simp only
    split at h <;> try exact h.elim
    rename_i hz
    split at h <;> try exact h.elim
    rename_i row hrow
    split at h <;> try exact h.elim
    rename_i l hl
    rw [←a5T (k:=k)] at h
    exact ⟨.ag (y5 l),T1 h,fun K' hk=>by simp only [hz,hrow,hl,hb];exact hk⟩
  | own j =>
   have h:G3 f7 o' K t (match L7 j k with|true=>.jk|false=>.own j):=h
   cases e:L7 j k <;> rw [e] at h <;> exact h.elim
  | tu l=>cases l <;> exact h.elim
  | _=>exact h.elim
 ·rename_i t ps
  have h:a2n g' K t ps.toList:=h
  have hg':∀p∈ps.toList,g' p.2=E3 k (g p.2):=fun p hp=>hg _ (by simp [Op.operands];exact ⟨p.1,by simpa using hp⟩)
  show ∃v,K (E3 k v)∧∀K',K' v→a2n g K' t ps.toList
  unfold a2n at h ⊢
  cases hk:(ty t).kind <;> simp only [hk] at h <;> first|exact h.elim|simp only []
  ·rw [←a0R (k:=k)] at h
   split at h <;> try exact h.elim
   rename_i l' hl
   obtain ⟨m,h1,rfl⟩:=a2w hg' hl
   exact ⟨.ag m,h,fun K' hk=>by rw [h1];exact hk⟩
  ·split at h <;> try exact h.elim
   rename_i e he
   try simp only [he]
   rw [←a0R (k:=k)] at h
   split at h <;> try exact h.elim
   rename_i l' hl
   obtain ⟨m,h1,rfl⟩:=a2w hg' hl
   exact ⟨.ag m,h,fun K' hk=>by rw [h1];exact hk⟩
 ·rename_i t n ps
  have h:E4 g' o' K t (n+1) ps.toList:=h
  have hg':∀p∈ps.toList,g' p.2=E3 k (g p.2):=fun p hp=>hg _ (by simp [Op.operands];exact ⟨p.1,by simpa using hp⟩)
  show ∃v,K (E3 k v)∧∀K',K' v→E4 g os K' t (n+1) ps.toList
  unfold E4 at h ⊢
  split at h <;> try exact h.elim
  rename_i e he
  simp only [he]
  simp only at h
  rw [show a3R (F4 (ty e).zero) (n+1) []=A3 k (a3R (F4 (ty e).zero) (n+1) []) from (a6y (k:=k) (ty e).zero (n+1) []).symm] at h
  split at h <;> try exact h.elim
  rename_i l' hl
  obtain ⟨m,h1,rfl⟩:=a2w hg' hl
  split at h <;> try exact h.elim
  rename_i ds hds
  split at h <;> try exact h.elim
  rename_i rows hrows
  exact ⟨.d (.sl (ty e).sz rows),h,fun K' hk=>by simp only [h1,a9C hB hds,hrows];exact hk⟩
 ·cases hb
theorem a9D {o:O}:∀ {l:List O} {k:Nat},y6 l k≠.dead→y6 (r9 l o) k=y6 l k
 | [],k,h=>absurd rfl h
 | _::_,0,_=>rfl
 | x::l,k+1,h=>by rw [r9,y6,y6];rw [y6] at h;exact a9D h
theorem a3d {o:O} {l:List O} {k:Nat} {x:O} (h:y6 l k=x) (hd:x≠.dead):y6 (r9 l o) k=x:=by rw [a9D (by rw [h];exact hd),h]
theorem b6m {o:O} {os:List O} {x:V} {r:Option Nat×List (List D)} (h:K7 os x=some r):K7 (r9 os o) x=some r:=by
 unfold K7 at h ⊢
 split at h
 ·exact h
 ·exact h
 ·split at h
  ·rename_i hok
   rw [a3d hok (by simp)]
   exact h
  ·cases h
 ·cases h
theorem b8D {o:O} {os:List O} {x:V} {r:Nat×Nat×List (List D)} (h:a6F os x=some r):a6F (r9 os o) x=some r:=by
 unfold a6F at h ⊢
 split at h
 ·split at h
  ·rename_i hok
   simp only [a3d hok (by simp)]
   exact h
  ·cases h
 ·cases h
theorem b6n {g:Operand→V} {os:List O} {o:O} {K:V→Prop} {op:Op} (hb:c31 op=true) (h:E9 f7 g os K op):E9 f7 g (r9 os o) K op:=by
 cases op <;> first|cases hb;done|exact h|skip
 ·rename_i t x
  have h:G3 f7 os K t (g x):=h
  show G3 f7 (r9 os o) K t (g x)
  generalize g x=v at h
  unfold G3 at h ⊢
  split at h <;> try exact h.elim
  ·split at h <;> try exact h.elim
   rename_i hok
   simp only [a3d hok (by simp)]
   exact h
  ·exact h
  ·split at h <;> try exact h.elim
   rename_i hok
   simp only [a3d hok (by simp)]
   exact h
 ·rename_i t x i
  have h:y8 f7 os K t (g x) (g i):=h
  show y8 f7 (r9 os o) K t (g x) (g i)
  generalize g x=v at h
  generalize g i=u at h
  unfold y8 at h ⊢
  split at h <;> try exact h.elim
  split at h
  ·exact h
  ·split at h <;> try exact h.elim
   split at h
   ·exact h
   split at h
   ·rename_i hraw
    rw [b8D hraw]
    exact h
   ·rename_i hraw
    split at h <;> try exact h.elim
    rename_i hrows
    have e:a6F (r9 os o) v=none:=by
     unfold a6F
     split
     ·rename_i k
      unfold K7 at hrows
      simp only at hrows
      split at hrows
      ·rename_i hok
       rw [a3d hok (by simp)]
      ·cases hrows
     ·rfl
    rw [e,b6m hrows]
    exact h
theorem a3W (s:S) (d:Option Nat) (v:V):(s.put d v).o=s.o:=by cases d <;> rfl
theorem a1d {l:List Nat} {s:S} {d:Option Nat} {v:V} (h:J8 d l=true):a7O l s (s.put d v):=(J6 (H6 h)).2
theorem c6d {dsts:List (Option Nat)} {x y:Oper} (h:a37 dsts x y=true) {s:S} {K:S→Prop} (hx:l6 f7 dsts x s fun s=>l6 f7 dsts y s K):l6 f7 dsts y s fun s=>l6 f7 dsts x s K:=by
 simp only [a37,c8Z] at h
 obtain ⟨v,h1,h2⟩:=a4Y h.1.1 hx
 obtain ⟨o',h3,h4⟩:=a7P (by simpa [b2d] using h.1.2) h1
 refine h4 s _ (a3W ..).symm (fun t ht=>(a1d h.2 t ht).symm) (h2 _ _ (fun _ _=>rfl) ?_)
 rw [←a0v s.t s.o o']
 exact h3
theorem c6e {dsts:List (Option Nat)} {x y:Oper} (h:a37 dsts x y=true) {s:S} {K:S→Prop} (hy:l6 f7 dsts y s fun s=>l6 f7 dsts x s K):l6 f7 dsts x s fun s=>l6 f7 dsts y s K:=by
 simp only [a37,c8Z] at h
 obtain ⟨o',h1,h2⟩:=a7P (by simpa [b2d] using h.1.2) hy
 obtain ⟨v,h3,h4⟩:=a4Y h.1.1 h1
 refine h4 s _ (fun _ _=>rfl) (h2 _ _ (a3W ..) (a1d h.2) ?_)
 rw [←a0v s.t s.o o'] at h3
 exact h3
theorem c6f {dsts:List (Option Nat)} {x y:Oper} (h:b0G dsts x y=true) {s:S} {K:S→Prop} (hx:l6 f7 dsts x s fun s=>l6 f7 dsts y s K):l6 f7 dsts y s fun s=>l6 f7 dsts x s K:=by
 obtain ⟨xd,xop,xty,xpos,xaf,xg⟩:=x
 obtain ⟨yd,yop,yty,ypos,yaf,yg⟩:=y
 simp only [b0G,c8Z] at h
 obtain ⟨⟨⟨⟨⟨⟨⟨h1,h2⟩,h3⟩,h4⟩,h5⟩,h6⟩,h7⟩,h8⟩:=h
 cases xg with
 | some g=>cases h2
 | none =>
  cases yg with
  | some g=>cases h5
  | none =>
   cases xd with
   | none=>cases h3
   | some d =>
    have hx':C9 f7 false s (some d) (fun s=>l6 f7 dsts ⟨yd,yop,yty,ypos,yaf,none⟩ s K) xop:=hx
    obtain ⟨k,o',hB,h9,h10⟩:=c4w h1 hx'
    have h9:C9 f7 false (S.put ⟨H3 k s.t,o'⟩ (some d) (.own k)) yd K yop:=h9
    have hcalm:a4V yop=true:=by
     rcases Bool.or_eq_true_iff.1 h4 with h4|h4
     ·cases yop <;> first|rfl|cases h4
     ·unfold b0F at h4
      split at h4 <;> first|rfl|cases h4
    rw [G0 hcalm] at h9
    have hl:∀t∈Vm.tmps yop.operands.toList,t∈v6 dsts ⟨yd,yop,yty,ypos,yaf,none⟩:=fun t ht=>by simp [v6,ht]
    have hgz:∀z∈yop.operands,(S.put ⟨H3 k s.t,o'⟩ (some d) (.own k)).get z=E3 k (s.get z):=fun z hz=>by
     have hs:a2a (v6 dsts ⟨yd,yop,yty,ypos,yaf,none⟩) (⟨H3 k s.t,o'⟩:S) (S.put ⟨H3 k s.t,o'⟩ (some d) (.own k)):=J6 (H6 h6)
     rw [(hs.ops (xs:=yop.operands.toList) hl) z (by simpa using hz)]
     exact b4I (kk:=some k) z
    obtain ⟨v,h11,h12⟩:∃v,K (S.put (S.put ⟨H3 k s.t,o'⟩ (some d) (.own k)) yd (E3 k v))∧∀K',K' v→E9 f7 s.get s.o K' yop:=by
     rcases Bool.or_eq_true_iff.1 h4 with h4|h4
     ·exact c15 (kk:=some k) (g:=s.get) (os:=s.o) h4 hgz h9
     ·exact c16 h4 hB hgz h9
    show C9 f7 false s yd (fun s=>l6 f7 dsts ⟨some d,xop,xty,xpos,xaf,none⟩ s K) yop
    rw [G0 hcalm]
    refine h12 _ ?_
    show C9 f7 false (s.put yd v) (some d) K xop
    have hs2:a2a (v6 dsts ⟨some d,xop,xty,xpos,xaf,none⟩) s (s.put yd v):=J6 (H6 h7)
    have hlx:∀t∈Vm.tmps xop.operands.toList,t∈v6 dsts ⟨some d,xop,xty,xpos,xaf,none⟩:=fun t ht=>by simp [v6,ht]
    have e:s.put yd v=⟨(s.put yd v).t,s.o⟩:=by cases yd <;> rfl
    rw [e]
    refine h10 _ _ (fun z hz=>?_) ?_
    ·rw [←e]
     exact hs2.ops hlx z (by simpa using hz)
    have hne:∀z,yd=some z→some d≠some z:=fun z hz hz'=>by
     subst hz
     rw [hz'] at h8
     simp at h8
    have e2:(⟨H3 k (s.put yd v).t,o'⟩:S)=S.put ⟨H3 k s.t,o'⟩ yd (E3 k v):=b4H (kk:=some k)
    rw [e2,a1Z hne]
    exact h11
theorem c6g {dsts:List (Option Nat)} {x y:Oper} (h:b33 dsts x y=true) {s:S} {K:S→Prop} (hx:l6 f7 dsts x s fun s=>l6 f7 dsts y s K):l6 f7 dsts y s fun s=>l6 f7 dsts x s K:=by
 obtain ⟨xd,xop,xty,xpos,xaf,xg⟩:=x
 obtain ⟨yd,yop,yty,ypos,yaf,yg⟩:=y
 simp only [b33,c8Z] at h
 obtain ⟨⟨⟨⟨⟨h1,h2⟩,h3⟩,h4⟩,h5⟩,h6⟩:=h
 cases xg with
 | some g=>cases h2
 | none =>
  cases yg with
  | some g=>cases h4
  | none =>
   cases yop <;> first|cases h3;done|skip
   rename_i e
   have hcalm:a4V xop=true:=by cases xop <;> first|rfl|cases h1
   have hx':C9 f7 false s xd (fun s=>l6 f7 dsts ⟨yd,.alloc e,yty,ypos,yaf,none⟩ s K) xop:=hx
   rw [G0 hcalm] at hx'
   obtain ⟨v,h7,h8⟩:=a1X _ hx'
   have h7:(match a3N (F4 (ty e).zero) with|true=>K (((s.put xd v).obj (a5F e)).put yd (.ptr (m7 (s.put xd v).o) 0))|false=>False):=h7
   show (match a3N (F4 (ty e).zero) with|true=>l6 f7 dsts ⟨xd,xop,xty,xpos,xaf,none⟩ ((s.obj (a5F e)).put yd (.ptr (m7 s.o) 0)) K|false=>False)
   cases hon:a3N (F4 (ty e).zero) with
   | false=>rw [hon] at h7;exact h7.elim
   | true =>
    rw [hon] at h7
    simp only at h7 ⊢
    show C9 f7 false ((s.obj (a5F e)).put yd (.ptr (m7 s.o) 0)) xd K xop
    rw [G0 hcalm,a3W]
    have hl:∀t∈Vm.tmps xop.operands.toList,t∈v6 dsts ⟨xd,xop,xty,xpos,xaf,none⟩:=fun t ht=>by simp [v6,ht]
    have hs:a2a (v6 dsts ⟨xd,xop,xty,xpos,xaf,none⟩) (s.obj (a5F e)) ((s.obj (a5F e)).put yd (.ptr (m7 s.o) 0)):=J6 (H6 h5)
    have hops:=hs.ops (xs:=xop.operands.toList) hl
    rw [a15 (g':=(s.obj (a5F e)).get) fun z hz=>hops z (by simpa using hz)]
    have h9:=h8 (fun w=>K (S.put ((s.obj (a5F e)).put yd (.ptr (m7 s.o) 0)) xd w)) (by
     have e1:m7 (s.put xd v).o=m7 s.o:=by rw [a3W]
     rw [e1] at h7
     have e2:(s.put xd v).obj (a5F e)=(s.obj (a5F e)).put xd v:=by cases xd <;> rfl
     rw [e2] at h7
     have hne:∀z,yd=some z→xd≠some z:=fun z hz hz'=>by
      subst hz;subst hz'
      simp at h6
     rw [a1Z hne]
     exact h7)
    exact b6n (g:=(s.obj (a5F e)).get) h1 h9
theorem c6h {dsts:List (Option Nat)} {x y:Oper} (h:b34 dsts x y=true) {s:S} {K:S→Prop} (hx:l6 f7 dsts x s fun s=>l6 f7 dsts y s K):l6 f7 dsts y s fun s=>l6 f7 dsts x s K:=by
 obtain ⟨xd,xop,xty,xpos,xaf,xg⟩:=x
 obtain ⟨yd,yop,yty,ypos,yaf,yg⟩:=y
 simp only [b34,c8Z] at h
 obtain ⟨⟨⟨⟨⟨⟨⟨h1,h2⟩,h3⟩,h4⟩,h5⟩,h6⟩,h7⟩,h8⟩:=h
 cases xg with
 | some g=>cases h2
 | none =>
  cases yg with
  | some g=>cases h4
  | none =>
   cases yd with
   | none=>cases h5
   | some d =>
    cases xop <;> first|cases h1;done|skip
    rename_i r
    unfold a96 at h3
    split at h3
    ·rename_i p q t t'
     have hx':J1 f7 false (s.put xd (s.get r)) (some d) K t ((s.put xd (s.get r)).get p) ((s.put xd (s.get r)).get q):=hx
     have hs2:a2a (v6 dsts ⟨some d,.call ⟨.builtin .append,⟨[p,q]⟩,⟨[t,t']⟩⟩,yty,ypos,yaf,none⟩) s (s.put xd (s.get r)):=J6 (H6 h6)
     have hops:=hs2.ops (xs:=[p,q]) fun t ht=>by simp [v6,Op.operands,Call.operands];simpa using ht
     rw [hops p (by simp),hops q (by simp)] at hx'
     obtain ⟨kk,o',k',h9,h10⟩:=a98 hx'
     have e:s=⟨s.t,(s.put xd (s.get r)).o⟩:=by cases xd <;> rfl
     show J1 f7 false s (some d) (fun s=>l6 f7 dsts ⟨xd,.move r,xty,xpos,xaf,none⟩ s K) t (s.get p) (s.get q)
     have h11:=h10 s.t (fun s=>l6 f7 dsts ⟨xd,.move r,xty,xpos,xaf,none⟩ s K) (by
      show K (S.put (S.put ⟨klT kk s.t,o'⟩ (some d) (.own k')) xd ((S.put ⟨klT kk s.t,o'⟩ (some d) (.own k')).get r))
      have hs:a2a (v6 dsts ⟨xd,.move r,xty,xpos,xaf,none⟩) (⟨klT kk s.t,o'⟩:S) (S.put ⟨klT kk s.t,o'⟩ (some d) (.own k')):=J6 (H6 h7)
      rw [hs.ops (xs:=[r]) (fun t ht=>by simp [v6,Op.operands];simpa using ht) r (by simp),b4I r]
      rw [b4H] at h9
      have hne:∀z,(some d:Option Nat)=some z→xd≠some z:=fun z hz hz'=>by
       subst hz'
       rw [←hz] at h8
       simp at h8
      rw [a1Z hne]
      exact h9)
     rw [←e] at h11
     exact h11
    ·cases h3
theorem c6i {dsts:List (Option Nat)} {x y:Oper} (h:b8B dsts x y=true) {s:S} {K:S→Prop} (hx:l6 f7 dsts x s fun s=>l6 f7 dsts y s K):l6 f7 dsts y s fun s=>l6 f7 dsts x s K:=by
 simp only [b8B,c96] at h
 rcases h with ((((h|h)|h)|h)|h)|h
 ·exact c6c h hx
 ·exact c6d h hx
 ·exact c6e h hx
 ·exact c6f h hx
 ·exact c6g h hx
 ·exact c6h h hx
theorem a9E (v:V):G4 .jk v=true:=by cases v <;> rfl
theorem b6o (u:V):G4 u .jk=true:=by cases u <;> rfl
theorem a7U (k:Nat) (w:V):E3 k w=.jk∨((∀v,G4 w v=true→G4 (E3 k w) v=true)∧∀u,G4 u w=true→G4 u (E3 k w)=true):=by
 cases w with
 | own j =>
  have e2:E3 k (.own j)=match L7 j k with|true=>V.jk|false=>.own j:=rfl
  rw [e2]
  cases L7 j k
  ·exact .inr ⟨fun _ h=>h,fun _ h=>h⟩
  ·exact .inl rfl
 | el j i z o =>
  have e2:E3 k (.el j i z o)=match L7 j k with|true=>V.jk|false=>.el j i z o:=rfl
  rw [e2]
  cases L7 j k
  ·exact .inr ⟨fun _ h=>h,fun _ h=>h⟩
  ·exact .inl rfl
 | ag cs=>exact .inr ⟨fun v _=>by cases v <;> rfl,fun u _=>by cases u <;> rfl⟩
 | tu l =>
  cases l with
  | nil=>exact .inr ⟨fun _ h=>h,fun _ h=>h⟩
  | cons x l=>exact .inl rfl
 | _=>exact .inr ⟨fun _ h=>h,fun _ h=>h⟩
theorem b2e {kk:Option Nat} {u v:V} (h:G4 u v=true):G4 (klV kk u) (klV kk v)=true:=by
 cases kk with
 | none=>exact h
 | some k =>
  show G4 (E3 k u) (E3 k v)=true
  rcases a7U k u with e|h1
  ·rw [e];exact a9E _
  ·rcases a7U k v with e|h2
   ·rw [e];exact b6o _
   ·exact h1.1 _ (h2.2 _ h)
def PP (prs:List (Nat×Nat)) (s:S):Prop:=∀p∈prs,G4 (n6 s.t p.1) (n6 s.t p.2)=true
theorem c32:∀ {prs:List (Nat×Nat)} {s:S},b1Z prs s.t=true→PP prs s
 | [],s,_,p,hp=>by simp at hp
 | (i,k)::l,s,h,p,hp=>by
  rw [b1Z] at h
  split at h
  ·rename_i h1
   rcases c9e.1 hp with rfl|hp
   ·exact h1
   ·exact c32 (prs:=l) h p hp
  ·cases h
def b8E (prs:List (Nat×Nat)) (d:Option Nat):Prop:=∀p∈prs,d≠some p.1∧d≠some p.2
theorem b4J {kk:Option Nat} {l:List V} {i:Nat}:n6 (klT kk l) i=klV kk (n6 l i):=by
 cases kk with
 | none=>rfl
 | some k=>exact a1c
theorem PP.next {prs:List (Nat×Nat)} {s:S} (h:PP prs s) {kk:Option Nat} {d:Option Nat} {v:V} {o':List O} (hf:b8E prs d):PP prs (S.put ⟨klT kk s.t,o'⟩ d v):=fun p hp=>by
 have key:∀i,d≠some i→n6 (S.put ⟨klT kk s.t,o'⟩ d v).t i=klV kk (n6 s.t i):=fun i hi=>by
  cases d with
  | none=>exact b4J
  | some x =>
   show n6 (E6 (klT kk s.t) x v) i=_
   rw [a1Y (fun e=>hi (by rw [e])),b4J]
 rw [key _ (hf p hp).1,key _ (hf p hp).2]
 exact b2e (h p hp)
theorem a7V {s:S} {dst:Option Nat} {K:S→Prop} {op:Op} (hx:C9 f7 false s dst K op):C9 f7 false s dst (fun s'=>(∃kk v o',s'=S.put ⟨klT kk s.t,o'⟩ dst v)∧K s') op:=by
 have hC:∀ {v:V},∃kk u o',s.put dst v=S.put ⟨klT kk s.t,o'⟩ dst u:=fun {v}=>⟨none,v,s.o,rfl⟩
 have hO:∀ {o:O} {v:V},∃kk u o',(s.obj o).put dst v=S.put ⟨klT kk s.t,o'⟩ dst u:=fun {o v}=>⟨none,v,r9 s.o o,rfl⟩
 have hF:∀ {z:Bool} {e:Nat} {r:List (List D)} {v:V},∃kk u o',(s.fresh false (.row z e r)).put dst v=S.put ⟨klT kk s.t,o'⟩ dst u:=fun {z e r v}=>⟨some (m7 s.o),v,_,rfl⟩
 have calm:∀ {op:Op},E9 f7 s.get s.o (fun v=>K (s.put dst v)) op→E9 f7 s.get s.o (fun v=>(∃kk u o',s.put dst v=S.put ⟨klT kk s.t,o'⟩ dst u)∧K (s.put dst v)) op:=fun h=>by
  obtain ⟨v,h1,h2⟩:=a1X _ h
  exact h2 _ ⟨hC,h1⟩
 unfold C9 at hx ⊢
 split at hx
 ·split at hx
  ·exact ⟨hO,hx⟩
  ·exact hx.elim
 ·split at hx
  ·exact ⟨hO,hx⟩
  ·exact hx.elim
 ·split at hx
  ·obtain ⟨o',h1,h2⟩:=a5S hx
   exact h2 _ _ ⟨⟨none,.jk,o',rfl⟩,h1⟩
  ·exact hx.elim
 ·unfold a2O at hx ⊢
  repeat' split at hx
  all_goals first|exact hx.elim|skip
  obtain ⟨h1,z,h2⟩:=hx
  exact ⟨h1,z,hO,h2⟩
 ·split at hx
  ·split at hx
   ·exact ⟨hO,hx⟩
   ·exact hx.elim
  ·exact hx.elim
 ·split at hx
  ·unfold b7R at hx ⊢
   repeat' split at hx
   all_goals first|exact hx.elim|exact ⟨⟨none,.jk,_,rfl⟩,hx⟩
  ·exact hx.elim
 ·split at hx
  ·obtain ⟨z,hx⟩:=hx
   exact ⟨z,hF,hx⟩
  ·exact hx.elim
 ·cases dst with
  | none =>
   unfold J1 at hx ⊢
   repeat' split at hx
   all_goals first|exact hx.elim|skip
   ·obtain ⟨h1,z,h2⟩:=hx
    exact ⟨h1,z,hF,h2⟩
   ·obtain ⟨h1,h2⟩:=hx
    exact ⟨h1,⟨some _,.jk,_,rfl⟩,h2⟩
  | some d =>
   obtain ⟨kk,o',k',h1,h2⟩:=a98 hx
   exact h2 s.t _ ⟨⟨kk,_,o',rfl⟩,h1⟩
 ·exact calm hx
 ·exact calm hx
 ·exact calm hx
 ·exact calm hx
theorem a0i {s:S} {dst:Option Nat} {K K':S→Prop} {op:Op} (hK:∀s,K s→K' s) (hx:C9 f7 false s dst K op):C9 f7 false s dst K' op:=by
 have calm:∀ {op:Op},E9 f7 s.get s.o (fun v=>K (s.put dst v)) op→E9 f7 s.get s.o (fun v=>K' (s.put dst v)) op:=fun h=>by
  obtain ⟨v,h1,h2⟩:=a1X _ h
  exact h2 _ (hK _ h1)
 unfold C9 at hx ⊢
 split at hx
 ·split at hx
  ·exact hK _ hx
  ·exact hx.elim
 ·split at hx
  ·exact hK _ hx
  ·exact hx.elim
 ·split at hx
  ·obtain ⟨o',h1,h2⟩:=a5S hx
   exact h2 _ _ (hK _ h1)
  ·exact hx.elim
 ·unfold a2O at hx ⊢
  repeat' split at hx
  all_goals first|exact hx.elim|skip
  obtain ⟨h1,z,h2⟩:=hx
  exact ⟨h1,z,hK _ h2⟩
 ·split at hx
  ·split at hx
   ·exact hK _ hx
   ·exact hx.elim
  ·exact hx.elim
 ·split at hx
  ·unfold b7R at hx ⊢
   repeat' split at hx
   all_goals first|exact hx.elim|exact hK _ hx
  ·exact hx.elim
 ·split at hx
  ·obtain ⟨z,hx⟩:=hx
   exact ⟨z,hK _ hx⟩
  ·exact hx.elim
 ·unfold J1 at hx ⊢
  repeat' split at hx
  all_goals first|exact hx.elim|skip
  ·obtain ⟨h1,z,h2⟩:=hx
   exact ⟨h1,z,hK _ h2⟩
  ·obtain ⟨h1,h2⟩:=hx
   exact ⟨h1,hK _ h2⟩
 ·exact calm hx
 ·exact calm hx
 ·exact calm hx
 ·exact calm hx
theorem b37 {dsts:List (Option Nat)} {prs:List (Nat×Nat)} {o:Oper} {s:S} {K:S→Prop} (hP:PP prs s) (hf:b8E prs o.dst) (h:l6 f7 dsts o s K):l6 f7 dsts o s (fun s'=>PP prs s'∧K s'):=by
 obtain ⟨dst,op,type,pos,after,gd⟩:=o
 have hst:∀ {K:S→Prop},C9 f7 false s dst K op→C9 f7 false s dst (fun s'=>PP prs s'∧K s') op:=fun {K} h=>by
  have h1:=a7V h
  exact a0i (fun s' ⟨⟨kk,v,o',e⟩,hk⟩=>⟨by rw [e];exact hP.next hf,hk⟩) h1
 cases gd with
 | none=>exact hst h
 | some jb =>
  obtain ⟨j,b⟩:=jb
  have h':guard s dsts j (fun
   | some c=>match bEq c b with
    | true=>C9 f7 false s dst K op
    | false=>K (s.put dst Z6)
   | none=>K (s.put dst Z6)):=h
  obtain ⟨c,h1,h2⟩:=a1n h'
  have hv:PP prs (s.put dst Z6):=hP.next (kk:=none) (o':=s.o) hf
  show guard s dsts j (fun
   | some c=>match bEq c b with
    | true=>C9 f7 false s dst (fun s'=>PP prs s'∧K s') op
    | false=>PP prs (s.put dst Z6)∧K (s.put dst Z6)
   | none=>PP prs (s.put dst Z6)∧K (s.put dst Z6))
  refine h2 _ ?_
  cases c with
  | none=>exact ⟨hv,h1⟩
  | some c =>
   simp only at h1 ⊢
   cases hb:bEq c b with
   | true=>rw [hb] at h1;exact hst h1
   | false=>rw [hb] at h1;exact ⟨hv,h1⟩
def a7W (prs:List (Nat×Nat)) (o:Oper):Prop:=∀p∈prs,o.dst≠some p.2∧(o.dst=some p.1→∃j,N3 o.op=some j∧(j,p.2)∈prs)
theorem b8F {prs:List (Nat×Nat)} {o:Oper} (h:b80 prs o=true):a7W prs o:=fun p hp=>by
 unfold b80 at h
 cases hd:o.dst with
 | none=>exact ⟨by simp,fun e=>by cases e⟩
 | some d =>
  rw [hd] at h
  have h1:=c9s.1 h p hp
  rw [c8Z,c96,a2t,a2t] at h1
  refine ⟨fun e=>?_,fun e=>?_⟩
  ·have e:=Option.some.inj e
   rw [C1.2 e] at h1
   exact absurd h1.1 (by simp)
  ·have e:=Option.some.inj e
   rcases h1.2 with h2|h2
   ·rw [C1.2 e] at h2
    exact absurd h2 (by simp)
   ·split at h2
    ·rename_i j hj
     exact ⟨j,hj,by simpa using h2⟩
    ·cases h2
theorem b6p {s:S} {dst:Option Nat} {K:S→Prop} {op:Op} {j:Nat} (ha:N3 op=some j) (h:C9 f7 false s dst K op):∃v,K (s.put dst v)∧(∀u,G4 (n6 s.t j) u=true→G4 v u=true)∧∀K':S→Prop,K' (s.put dst v)→C9 f7 false s dst K' op:=by
 have hc:a4V op=true:=by
  unfold N3 at ha
  split at ha <;> first|rfl|cases ha
 rw [G0 hc] at h
 have hs:∀ {K':S→Prop} {v:V},E9 f7 s.get s.o (fun v=>K' (s.put dst v)) op→C9 f7 false s dst K' op:=fun {K' v} hk=>by rw [G0 hc];exact hk
 unfold N3 at ha
 split at ha <;> try cases ha
 ·have h:K (s.put dst (n6 s.t j)):=h
  exact ⟨_,h,fun u hu=>hu,fun K' hk=>hs (v:=.jk) (show K' (s.put dst (n6 s.t j)) from hk)⟩
 ·have h:nnV (fun v=>K (s.put dst v)) (n6 s.t j):=h
  refine ⟨n6 s.t j,?_,fun u hu=>hu,fun K' hk=>hs (v:=.jk) ?_⟩
  ·revert h;cases n6 s.t j <;> intro h <;> first|exact h|exact h.elim
  ·show nnV (fun v=>K' (s.put dst v)) (n6 s.t j)
   revert h hk;cases n6 s.t j <;> intro h hk <;> first|exact hk|exact h.elim
 ·rename_i _ t i
  have h:N7 (fun v=>K (s.put dst v)) t i (n6 s.t j):=h
  have key:∃v,K (s.put dst v)∧(∀u,G4 (n6 s.t j) u=true→G4 v u=true)∧∀K':S→Prop,K' (s.put dst v)→N7 (fun v=>K' (s.put dst v)) t i (n6 s.t j):=by
   generalize n6 s.t j=x at *
   simp only [N7] at h ⊢
   split at h <;> try exact h.elim
   rename_i hf
   cases x <;> try exact h.elim
   ·exact ⟨_,h,fun u hu=>by cases u <;> first|rfl|exact hu,fun K' hk=>hk⟩
   ·exact ⟨_,h,fun u hu=>by cases u <;> first|rfl|exact hu,fun K' hk=>hk⟩
   ·exact ⟨_,h,fun u hu=>by cases u <;> first|rfl|exact hu,fun K' hk=>hk⟩
  obtain ⟨v,h1,h2,h3⟩:=key
  exact ⟨v,h1,h2,fun K' hk=>hs (v:=.jk) (h3 K' hk)⟩
 ·rename_i _ t i
  have h:y8 f7 s.o (fun v=>K (s.put dst v)) t (n6 s.t j) (s.get i):=h
  have key:∃v,K (s.put dst v)∧(∀u,G4 (n6 s.t j) u=true→G4 v u=true)∧∀K':S→Prop,K' (s.put dst v)→y8 f7 s.o (fun v=>K' (s.put dst v)) t (n6 s.t j) (s.get i):=by
   generalize n6 s.t j=x at *
   generalize s.get i=y at *
   simp only [y8] at h ⊢
   split at h <;> try exact h.elim
   split at h
   ·split at h <;> try exact h.elim
    split at h <;> try exact h.elim
    cases x <;> try exact h.elim
    ·exact ⟨_,h,fun u hu=>by cases u <;> first|rfl|exact hu,fun K' hk=>by first|(simp only [*,W6];done)|(simp only [*,W6];exact hk)⟩
    ·exact ⟨_,h,fun u hu=>by cases u <;> first|rfl|exact hu,fun K' hk=>by first|(simp only [*,W6];done)|(simp only [*,W6];exact hk)⟩
    ·exact ⟨_,h,fun u hu=>by cases u <;> first|rfl|exact hu,fun K' hk=>by first|(simp only [*,W6];done)|(simp only [*,W6];exact hk)⟩
   ·split at h <;> try exact h.elim
    rename_i e he
    split at h
    ·rename_i k m hb
     split at h <;> try exact h.elim
     rename_i j' hj
     obtain ⟨k',n',rfl⟩:∃k' n',x=.bs k' n':=by
      cases x <;> first|exact ⟨_,_,rfl⟩|cases hb
     cases hb
     exact ⟨_,h,fun u hu=>by cases u <;> first|rfl|exact hu,fun K' hk=>by first|(simp only [*,bsV];done)|(simp only [*,bsV];exact hk)⟩
    ·rename_i hb
     split at h
     ·rename_i k e' rows hr
      split at h <;> try exact h.elim
      rename_i he'
      split at h <;> try exact h.elim
      rename_i row hrow
      obtain rfl:x=.own k:=by
       unfold a6F at hr
       split at hr
       ·split at hr
        ·cases hr;rfl
        ·cases hr
       ·cases hr
      exact ⟨_,h,fun u hu=>by cases u <;> first|rfl|exact hu,fun K' hk=>by first|(simp only [*];done)|(simp only [*];exact hk)⟩
     ·rename_i hr
      split at h <;> try exact h.elim
      rename_i sz rows hrw
      split at h <;> try exact h.elim
      rename_i hsz
      split at h <;> try exact h.elim
      rename_i row hrow
      exact ⟨_,h,fun u hu=>rfl,fun K' hk=>by first|(simp only [*];done)|(simp only [*];exact hk)⟩
  obtain ⟨v,h1,h2,h3⟩:=key
  exact ⟨v,h1,h2,fun K' hk=>hs (v:=.jk) (h3 K' hk)⟩
theorem a1I {v:V}:∀ {l:List V} {i:Nat},n6 (E6 l i v) i=v∨n6 (E6 l i v) i=.jk
 | [],i=>.inr rfl
 | x::l,0=>.inl rfl
 | x::l,i+1=>by rw [E6,n6];exact a1I
theorem PP.chain {prs:List (Nat×Nat)} {s:S} (h:PP prs s) {d:Option Nat} {v:V} (hv:∀p∈prs,d≠some p.2∧(d=some p.1→G4 v (n6 s.t p.2)=true)):PP prs (s.put d v):=fun p hp=>by
 have key:∀i,d≠some i→n6 (s.put d v).t i=n6 s.t i:=fun i hi=>by
  cases d with
  | none=>rfl
  | some x =>
   show n6 (E6 s.t x v) i=_
   rw [a1Y (fun e=>hi (by rw [e]))]
 obtain ⟨h1,h2⟩:=hv p hp
 rw [key _ h1]
 by_cases e:d=some p.1
 ·have h3:=h2 e
  subst e
  show G4 (n6 (E6 s.t p.1 v) p.1) _=true
  rcases a1I (v:=v) (l:=s.t) (i:=p.1) with h4|h4
  ·rw [h4];exact h3
  ·rw [h4];exact a9E _
 ·rw [key _ e]
  exact h p hp
theorem a5c {prs:List (Nat×Nat)} {o:Oper} (h:a7W prs o) (hn:N3 o.op=none):b8E prs o.dst:=fun p hp=>by
 obtain ⟨h1,h2⟩:=h p hp
 refine ⟨fun e=>?_,h1⟩
 obtain ⟨j,hj,_⟩:=h2 e
 rw [hn] at hj
 cases hj
theorem b6q {prs:List (Nat×Nat)} {s:S} {dst:Option Nat} {K:S→Prop} {op:Op} {j:Nat} (ha:N3 op=some j) (hP:PP prs s) (hk:∀p∈prs,dst≠some p.2∧(dst=some p.1→∃j,N3 op=some j∧(j,p.2)∈prs)) (h:C9 f7 false s dst K op):C9 f7 false s dst (fun s'=>PP prs s'∧K s') op:=by
 obtain ⟨v,h1,h2,h3⟩:=b6p ha h
 refine h3 _ ⟨hP.chain fun p hp=>⟨(hk p hp).1,fun e=>?_⟩,h1⟩
 obtain ⟨j',hj,hm⟩:=(hk p hp).2 e
 rw [ha] at hj
 cases hj
 exact h2 _ (hP _ hm)
theorem b8G {prs:List (Nat×Nat)} {s:S} {dst:Option Nat} {op:Op} (hP:PP prs s) (hk:∀p∈prs,dst≠some p.2∧(dst=some p.1→∃j,N3 op=some j∧(j,p.2)∈prs)):PP prs (s.put dst Z6):=hP.chain fun p hp=>⟨(hk p hp).1,fun _=>rfl⟩
theorem a3e {dsts:List (Option Nat)} {prs:List (Nat×Nat)} {o:Oper} {s:S} {K:S→Prop} (hP:PP prs s) (hk:a7W prs o) (h:l6 f7 dsts o s K):l6 f7 dsts o s (fun s'=>PP prs s'∧K s'):=by
 cases ha:N3 o.op with
 | none=>exact b37 hP (a5c hk ha) h
 | some j =>
  obtain ⟨dst,op,type,pos,after,gd⟩:=o
  simp only at ha
  have hst:∀ {K:S→Prop},C9 f7 false s dst K op→C9 f7 false s dst (fun s'=>PP prs s'∧K s') op:=fun {K} h=>b6q ha hP hk h
  cases gd with
  | none=>exact hst h
  | some jb =>
   obtain ⟨j,b⟩:=jb
   have h':guard s dsts j (fun
    | some c=>match bEq c b with
     | true=>C9 f7 false s dst K op
     | false=>K (s.put dst Z6)
    | none=>K (s.put dst Z6)):=h
   obtain ⟨c,h1,h2⟩:=a1n h'
   have hv:PP prs (s.put dst Z6):=b8G (op:=op) hP hk
   show guard s dsts j (fun
    | some c=>match bEq c b with
     | true=>C9 f7 false s dst (fun s'=>PP prs s'∧K s') op
     | false=>PP prs (s.put dst Z6)∧K (s.put dst Z6)
    | none=>PP prs (s.put dst Z6)∧K (s.put dst Z6))
   refine h2 _ ?_
   cases c with
   | none=>exact ⟨hv,h1⟩
   | some c =>
    simp only at h1 ⊢
    cases hb:bEq c b with
    | true=>rw [hb] at h1;exact hst h1
    | false=>rw [hb] at h1;exact ⟨hv,h1⟩
def a5V (dsts:List (Option Nat)) (prs:List (Nat×Nat)) (x y:Oper):Bool:=match b0D x,a7I dsts y with
 | some i,some k=>prs.contains (i,k) && J8 x.dst (v6 dsts y)
 | _,_=>false
theorem a9F {x:Oper} {i:Nat} (h:b0D x=some i):∃d t ty p a,x=⟨d,.load t (.tmp i),ty,p,a,none⟩:=by
 unfold b0D at h
 split at h
 ·have h:=Option.some.inj h
  subst h
  exact ⟨_,_,_,_,_,rfl⟩
 ·cases h
theorem a38 {dsts:List (Option Nat)} {y:Oper} {k:Nat} (h:a7I dsts y=some k):∃t z ty p a,y=⟨none,.store t (.tmp k) z,ty,p,a,none⟩:=by
 unfold a7I at h
 split at h
 ·split at h
  ·cases h
  ·have h:=Option.some.inj h
   subst h
   exact ⟨_,_,_,_,_,rfl⟩
 ·cases h
theorem a3f {o:O}:∀ {l:List O} {m j:Nat},j≠m→y6 (G8 l m o) j=y6 l j
 | [],m,j,_=>rfl
 | x::l,0,0,h=>absurd rfl h
 | x::l,0,j+1,_=>rfl
 | x::l,m+1,0,_=>rfl
 | x::l,m+1,j+1,h=>by rw [G8,y6,y6,a3f (fun e=>h (by rw [e]))]
theorem a0w {o:O}:∀ {l:List O} {m:Nat},y6 l m≠.dead→y6 (G8 l m o) m=o
 | [],m,h=>absurd rfl h
 | x::l,0,_=>rfl
 | x::l,m+1,h=>by rw [G8,y6];rw [y6] at h;exact a0w h
theorem a16 {s:S} {K:S→Prop} {t:Nat} {y x:V} (h:J5 f7 s K t y x):∃m b,((∃off cs cs',x=.ptr m off∧y6 s.o m=.box cs∧b=.box cs')∨(∃i z off e rows rows',x=.el m i z off∧y6 s.o m=.row false e rows∧b=.row false e rows'))∧K ⟨s.t,G8 s.o m b⟩∧∀(t':List V) (K':S→Prop),K' ⟨t',G8 s.o m b⟩→J5 f7 ⟨t',s.o⟩ K' t y x:=by
 unfold J5 at h
 split at h <;> try exact h.elim
 ·rename_i k off
  split at h <;> try exact h.elim
  rename_i cs hok
  split at h <;> try exact h.elim
  rename_i l hl
  split at h <;> try exact h.elim
  rename_i hsz
  split at h <;> try exact h.elim
  rename_i cs' hcs
  refine ⟨k,_,.inl ⟨off,cs,cs',rfl,hok,rfl⟩,h,fun t' K' hk=>?_⟩
  unfold J5
  simp only [hok,hl,hsz,hcs]
  exact hk
 ·rename_i k i sz off
  split at h <;> try exact h.elim
  rename_i e rows hok
  split at h <;> try exact h.elim
  rename_i hsz
  split at h <;> try exact h.elim
  rename_i row hrow
  split at h <;> try exact h.elim
  rename_i l hl
  split at h <;> try exact h.elim
  rename_i ds hds
  split at h <;> try exact h.elim
  rename_i hlen
  split at h <;> try exact h.elim
  rename_i row' hrow'
  refine ⟨k,_,.inr ⟨i,sz,off,e,rows,_,rfl,hok,rfl⟩,h,fun t' K' hk=>?_⟩
  unfold J5
  simp only [hok,hsz,hrow,hl,hds,hlen,hrow']
  exact hk
theorem a7X {os os':List O} {K:V→Prop} {t:Nat} {x:V} (hx:∀j,((∃o,x=.ptr j o)∨∃i z o,x=.el j i z o)→y6 os' j=y6 os j):G3 f7 os K t x=G3 f7 os' K t x:=by
 cases x <;> try rfl
 case ptr k off=>simp only [G3,hx k (.inl ⟨off,rfl⟩)]
 case el k i z off=>simp only [G3,hx k (.inr ⟨i,z,off,rfl⟩)]
theorem a9G {os:List O} {K:V→Prop} {t:Nat} {x:V} (h:G3 f7 os K t x):(∀j o,x=.ptr j o→∃cs,y6 os j=.box cs)∧∀j i z o,x=.el j i z o→∃zz e rows,y6 os j=.row zz e rows:=by
 refine ⟨fun j o e=>?_,fun j i z o e=>?_⟩
 ·subst e
  simp only [G3] at h
  split at h <;> first|exact ⟨_,by assumption⟩|exact h.elim
 ·subst e
  simp only [G3] at h
  split at h <;> first|exact ⟨_,_,_,by assumption⟩|exact h.elim
theorem c6j {dsts:List (Option Nat)} {prs:List (Nat×Nat)} {x y:Oper} (h:a5V dsts prs x y=true) {s:S} (hP:PP prs s) {K:S→Prop} (hx:l6 f7 dsts x s fun s=>l6 f7 dsts y s K):l6 f7 dsts y s fun s=>l6 f7 dsts x s K:=by
 unfold a5V at h
 split at h <;> try cases h
 rename_i i k hi hk
 obtain ⟨d,t,ty1,p1,a1,rfl⟩:=a9F hi
 obtain ⟨t2,z,ty2,p2,a2,rfl⟩:=a38 hk
 simp only [c8Z,c9W] at h
 have hd:=hP _ h.1
 have hx':G3 f7 s.o (fun v=>l6 f7 dsts ⟨none,.store t2 (.tmp k) z,ty2,p2,a2,none⟩ (s.put d v) K) t (n6 s.t i):=hx
 have hlive:=a9G hx'
 obtain ⟨v,h1,h2⟩:=a6X _ hx'
 have hs:a2a (v6 dsts ⟨none,.store t2 (.tmp k) z,ty2,p2,a2,none⟩) s (s.put d v):=J6 (H6 h.2)
 have hops:=hs.ops (xs:=[.tmp k,z]) fun t ht=>by simp [v6,Op.operands];simpa using ht
 have h3:J5 f7 (s.put d v) K t2 ((s.put d v).get z) ((s.put d v).get (.tmp k)):=h1
 rw [hops z (by simp),hops (.tmp k) (by simp)] at h3
 obtain ⟨m,b,hsh,h4,h5⟩:=a16 h3
 rw [a3W] at h4 h5 hsh
 have e0:s=⟨s.t,s.o⟩:=rfl
 show J5 f7 s (fun s=>l6 f7 dsts ⟨d,.load t (.tmp i),ty1,p1,a1,none⟩ s K) t2 (s.get z) (s.get (.tmp k))
 rw [e0]
 have h5:=h5 s.t (fun s=>l6 f7 dsts ⟨d,.load t (.tmp i),ty1,p1,a1,none⟩ s K) ?_
 ·have e1:(⟨s.t,(s.put d v).o⟩:S)=s:=by rw [a3W]
  exact e1 ▸ h5
 show G3 f7 (G8 s.o m b) (fun v=>K (S.put ⟨s.t,G8 s.o m b⟩ d v)) t (n6 s.t i)
 rw [←a7X (os:=s.o) (fun j hj=>?_)]
 ·refine h2 _ ?_
  rw [←a0v s.t s.o]
  exact h4
 ·refine a3f fun e=>?_
  subst e
  have hd':G4 (n6 s.t i) (s.get (.tmp k))=true:=hd
  rcases hsh with ⟨off,cs,cs',hy,ho,_⟩|⟨i',z',off,e,rows,rows',hy,ho,_⟩
  ·rw [hy] at hd'
   rcases hj with ⟨o,hj⟩|⟨i2,z2,o,hj⟩
   ·rw [hj] at hd'
    simp only [G4] at hd'
    rw [C1.2 rfl] at hd'
    cases hd'
   ·obtain ⟨zz,e',rows,he⟩:=hlive.2 _ _ _ _ hj
    rw [ho] at he
    cases he
  ·rw [hy] at hd'
   rcases hj with ⟨o,hj⟩|⟨i2,z2,o,hj⟩
   ·obtain ⟨cs,he⟩:=hlive.1 _ _ hj
    rw [ho] at he
    cases he
   ·rw [hj] at hd'
    simp only [G4] at hd'
    rw [C1.2 rfl] at hd'
    cases hd'
theorem c6k {dsts:List (Option Nat)} {prs:List (Nat×Nat)} {x y:Oper} (h:a5V dsts prs x y=true) {s:S} (hP:PP prs s) {K:S→Prop} (hy:l6 f7 dsts y s fun s=>l6 f7 dsts x s K):l6 f7 dsts x s fun s=>l6 f7 dsts y s K:=by
 unfold a5V at h
 split at h <;> try cases h
 rename_i i k hi hk
 obtain ⟨d,t,ty1,p1,a1,rfl⟩:=a9F hi
 obtain ⟨t2,z,ty2,p2,a2,rfl⟩:=a38 hk
 simp only [c8Z,c9W] at h
 have hd:G4 (n6 s.t i) (s.get (.tmp k))=true:=hP _ h.1
 have hy':J5 f7 s (fun s=>l6 f7 dsts ⟨d,.load t (.tmp i),ty1,p1,a1,none⟩ s K) t2 (s.get z) (s.get (.tmp k)):=hy
 obtain ⟨m,b,hsh,h4,h5⟩:=a16 hy'
 have h4:G3 f7 (G8 s.o m b) (fun v=>K (S.put ⟨s.t,G8 s.o m b⟩ d v)) t (n6 s.t i):=h4
 have hlive:=a9G h4
 rw [←a7X (os:=s.o) (fun j hj=>?_)] at h4
 ·obtain ⟨v,h6,h7⟩:=a6X _ h4
  show G3 f7 s.o (fun v=>l6 f7 dsts ⟨none,.store t2 (.tmp k) z,ty2,p2,a2,none⟩ (s.put d v) K) t (n6 s.t i)
  refine h7 _ ?_
  have hs:a2a (v6 dsts ⟨none,.store t2 (.tmp k) z,ty2,p2,a2,none⟩) s (s.put d v):=J6 (H6 h.2)
  have hops:=hs.ops (xs:=[.tmp k,z]) fun t ht=>by simp [v6,Op.operands];simpa using ht
  show J5 f7 (s.put d v) K t2 ((s.put d v).get z) ((s.put d v).get (.tmp k))
  rw [hops z (by simp),hops (.tmp k) (by simp)]
  have e1:s.put d v=⟨(s.put d v).t,s.o⟩:=by cases d <;> rfl
  rw [e1]
  refine h5 _ _ ?_
  rw [←a0v s.t s.o] at h6
  exact h6
 ·refine a3f fun e=>?_
  subst e
  rcases hsh with ⟨off,cs,cs',hy,ho,hb⟩|⟨i',z',off,e,rows,rows',hy,ho,hb⟩
  ·rw [hy] at hd
   rcases hj with ⟨o,hj⟩|⟨i2,z2,o,hj⟩
   ·rw [hj] at hd
    simp only [G4] at hd
    rw [C1.2 rfl] at hd
    cases hd
   ·obtain ⟨zz,e',rows,he⟩:=hlive.2 _ _ _ _ hj
    rw [a0w (by rw [ho];simp),hb] at he
    cases he
  ·rw [hy] at hd
   rcases hj with ⟨o,hj⟩|⟨i2,z2,o,hj⟩
   ·obtain ⟨cs,he⟩:=hlive.1 _ _ hj
    rw [a0w (by rw [ho];simp),hb] at he
    cases he
   ·rw [hj] at hd
    simp only [G4] at hd
    rw [C1.2 rfl] at hd
    cases hd
def b38:Oper→Option Nat
 | ⟨_,.indexAddr _ (.tmp i) _,_,_,_,none⟩=>some i
 | _=>none
theorem a9H {x:Oper} {i:Nat} (h:b38 x=some i):∃d t y ty p a,x=⟨d,.indexAddr t (.tmp i) y,ty,p,a,none⟩:=by
 unfold b38 at h
 split at h
 ·have h:=Option.some.inj h
  subst h
  exact ⟨_,_,_,_,_,_,rfl⟩
 ·cases h
def a5W (dsts:List (Option Nat)) (prs:List (Nat×Nat)) (x y:Oper):Bool:=match b38 x,a7I dsts y with
 | some i,some k=>prs.contains (i,k) && J8 x.dst (v6 dsts y)
 | _,_=>false
theorem b8H {os os':List O} {K:V→Prop} {t:Nat} {x y:V} (hx:∀j,x=.own j→y6 os' j=y6 os j):y8 f7 os K t x y=y8 f7 os' K t x y:=by
 have e1:a6F os' x=a6F os x:=by cases x <;> first|rfl|simp only [a6F,hx _ rfl]
 have e2:K7 os' x=K7 os x:=by cases x with|d x=>cases x <;> rfl|own j=>simp only [K7,hx j rfl]|_=>rfl
 unfold y8
 rw [e1,e2]
theorem b4K {os:List O} {K:V→Prop} {t:Nat} {x y:V} (h:y8 f7 os K t x y):∀j,x=.own j→∃zz e rows,y6 os j=.row zz e rows:=by
 intro j e
 subst e
 cases ho:y6 os j with
 | row z e rows=>exact ⟨_,_,_,rfl⟩
 | _ =>
  exfalso
  simp only [y8,W6,bsV,a6F,K7,ho] at h
  repeat' split at h
  all_goals first|exact h|skip
theorem c6l {dsts:List (Option Nat)} {prs:List (Nat×Nat)} {x y:Oper} (h:a5W dsts prs x y=true) {s:S} (hP:PP prs s) {K:S→Prop} (hx:l6 f7 dsts x s fun s=>l6 f7 dsts y s K):l6 f7 dsts y s fun s=>l6 f7 dsts x s K:=by
 unfold a5W at h
 split at h <;> try cases h
 rename_i i k hi hk
 obtain ⟨d,t,zi,ty1,p1,a1,rfl⟩:=a9H hi
 obtain ⟨t2,z,ty2,p2,a2,rfl⟩:=a38 hk
 simp only [c8Z,c9W] at h
 have hd:=hP _ h.1
 have hx':y8 f7 s.o (fun v=>l6 f7 dsts ⟨none,.store t2 (.tmp k) z,ty2,p2,a2,none⟩ (s.put d v) K) t (n6 s.t i) (s.get zi):=hx
 have hlive:=b4K hx'
 obtain ⟨v,h1,h2⟩:=a7L _ hx'
 have hs:a2a (v6 dsts ⟨none,.store t2 (.tmp k) z,ty2,p2,a2,none⟩) s (s.put d v):=J6 (H6 h.2)
 have hops:=hs.ops (xs:=[.tmp k,z]) fun t ht=>by simp [v6,Op.operands];simpa using ht
 have h3:J5 f7 (s.put d v) K t2 ((s.put d v).get z) ((s.put d v).get (.tmp k)):=h1
 rw [hops z (by simp),hops (.tmp k) (by simp)] at h3
 obtain ⟨m,b,hsh,h4,h5⟩:=a16 h3
 rw [a3W] at h4 h5 hsh
 have e0:s=⟨s.t,s.o⟩:=rfl
 show J5 f7 s (fun s=>l6 f7 dsts ⟨d,.indexAddr t (.tmp i) zi,ty1,p1,a1,none⟩ s K) t2 (s.get z) (s.get (.tmp k))
 rw [e0]
 have h5:=h5 s.t (fun s=>l6 f7 dsts ⟨d,.indexAddr t (.tmp i) zi,ty1,p1,a1,none⟩ s K) ?_
 ·have e1:(⟨s.t,(s.put d v).o⟩:S)=s:=by rw [a3W]
  exact e1 ▸ h5
 show y8 f7 (G8 s.o m b) (fun v=>K (S.put ⟨s.t,G8 s.o m b⟩ d v)) t (n6 s.t i) (S.get ⟨s.t,G8 s.o m b⟩ zi)
 rw [show S.get ⟨s.t,G8 s.o m b⟩ zi=s.get zi by cases zi <;> rfl,←b8H (os:=s.o) (fun j hj=>?_)]
 ·refine h2 _ ?_
  rw [←a0v s.t s.o]
  exact h4
 ·refine a3f fun e=>?_
  subst e
  have hd':G4 (n6 s.t i) (s.get (.tmp k))=true:=hd
  obtain ⟨zz,e',rows,he⟩:=hlive _ hj
  rcases hsh with ⟨off,cs,cs',hy,ho,_⟩|⟨i',z',off,e,rows,rows',hy,ho,_⟩
  ·rw [ho] at he
   cases he
  ·rw [hy,hj] at hd'
   simp only [G4] at hd'
   rw [C1.2 rfl] at hd'
   cases hd'
theorem c6m {dsts:List (Option Nat)} {prs:List (Nat×Nat)} {x y:Oper} (h:a5W dsts prs x y=true) {s:S} (hP:PP prs s) {K:S→Prop} (hy:l6 f7 dsts y s fun s=>l6 f7 dsts x s K):l6 f7 dsts x s fun s=>l6 f7 dsts y s K:=by
 unfold a5W at h
 split at h <;> try cases h
 rename_i i k hi hk
 obtain ⟨d,t,zi,ty1,p1,a1,rfl⟩:=a9H hi
 obtain ⟨t2,z,ty2,p2,a2,rfl⟩:=a38 hk
 simp only [c8Z,c9W] at h
 have hd:G4 (n6 s.t i) (s.get (.tmp k))=true:=hP _ h.1
 have hy':J5 f7 s (fun s=>l6 f7 dsts ⟨d,.indexAddr t (.tmp i) zi,ty1,p1,a1,none⟩ s K) t2 (s.get z) (s.get (.tmp k)):=hy
 obtain ⟨m,b,hsh,h4,h5⟩:=a16 hy'
 have h4:y8 f7 (G8 s.o m b) (fun v=>K (S.put ⟨s.t,G8 s.o m b⟩ d v)) t (n6 s.t i) (S.get ⟨s.t,G8 s.o m b⟩ zi):=h4
 rw [show S.get ⟨s.t,G8 s.o m b⟩ zi=s.get zi by cases zi <;> rfl] at h4
 have hlive:=b4K h4
 rw [←b8H (os:=s.o) (fun j hj=>?_)] at h4
 ·obtain ⟨v,h6,h7⟩:=a7L _ h4
  show y8 f7 s.o (fun v=>l6 f7 dsts ⟨none,.store t2 (.tmp k) z,ty2,p2,a2,none⟩ (s.put d v) K) t (n6 s.t i) (s.get zi)
  refine h7 _ ?_
  have hs:a2a (v6 dsts ⟨none,.store t2 (.tmp k) z,ty2,p2,a2,none⟩) s (s.put d v):=J6 (H6 h.2)
  have hops:=hs.ops (xs:=[.tmp k,z]) fun t ht=>by simp [v6,Op.operands];simpa using ht
  show J5 f7 (s.put d v) K t2 ((s.put d v).get z) ((s.put d v).get (.tmp k))
  rw [hops z (by simp),hops (.tmp k) (by simp)]
  have e1:s.put d v=⟨(s.put d v).t,s.o⟩:=by cases d <;> rfl
  rw [e1]
  refine h5 _ _ ?_
  rw [←a0v s.t s.o] at h6
  exact h6
 ·refine a3f fun e=>?_
  subst e
  obtain ⟨zz,e',rows,he⟩:=hlive _ hj
  rcases hsh with ⟨off,cs,cs',hy,ho,hb⟩|⟨i',z',off,e,rows,rows',hy,ho,hb⟩
  ·rw [a0w (by rw [ho];simp),hb] at he
   cases he
  ·rw [hy,hj] at hd
   simp only [G4] at hd
   rw [C1.2 rfl] at hd
   cases hd
def a4n (dsts:List (Option Nat)) (prs:List (Nat×Nat)) (x y:Oper):Bool:=b8B dsts x y || a5V dsts prs x y || a5V dsts prs y x || a5W dsts prs x y || a5W dsts prs y x
theorem c33 {dsts:List (Option Nat)} {prs:List (Nat×Nat)} {x y:Oper} (h:a4n dsts prs x y=true) {s:S} (hP:PP prs s) {K:S→Prop} (hx:l6 f7 dsts x s fun s=>l6 f7 dsts y s K):l6 f7 dsts y s fun s=>l6 f7 dsts x s K:=by
 simp only [a4n,c96] at h
 rcases h with (((h|h)|h)|h)|h
 ·exact c6i h hx
 ·exact c6j h hP hx
 ·exact c6k h hP hx
 ·exact c6l h hP hx
 ·exact c6m h hP hx
theorem U4 {dsts:List (Option Nat)} {o:Oper} {s:S} {K K':S→Prop} (hK:∀s,K s→K' s) (h:l6 f7 dsts o s K):l6 f7 dsts o s K':=by
 obtain ⟨dst,op,type,pos,after,gd⟩:=o
 cases gd with
 | none=>exact a0i hK h
 | some jb =>
  obtain ⟨j,b⟩:=jb
  have h':guard s dsts j (fun
   | some c=>match bEq c b with
    | true=>C9 f7 false s dst K op
    | false=>K (s.put dst Z6)
   | none=>K (s.put dst Z6)):=h
  obtain ⟨c,h1,h2⟩:=a1n h'
  show guard s dsts j (fun
   | some c=>match bEq c b with
    | true=>C9 f7 false s dst K' op
    | false=>K' (s.put dst Z6)
   | none=>K' (s.put dst Z6))
  refine h2 _ ?_
  cases c with
  | none=>exact hK _ h1
  | some c =>
   simp only at h1 ⊢
   cases hb:bEq c b with
   | true=>rw [hb] at h1;exact a0i hK h1
   | false=>rw [hb] at h1;exact hK _ h1
def a7Y (all:List Oper) (i:Nat):Prop:=a6w all i=false∧a2v all i=none
theorem a2b {dsts:List (Option Nat)} {all:List Oper} {i:Nat} (h:a7Y all i) (o:Oper) (s:S) (K:S→Prop):W9 f7 dsts all i o s K=l6 f7 dsts o s K:=by
 have hst:∀(s:S) (dst:Option Nat) (K:S→Prop) (op:Op),U0 f7 all i s dst K op=C9 f7 false s dst K op:=fun s dst K op=>by
  unfold U0
  split
  ·split
   ·rw [h.1,h.2]
   ·rfl
  ·rfl
 obtain ⟨dst,op,type,pos,after,gd⟩:=o
 cases gd with
 | none=>exact hst s dst K op
 | some jb =>
  obtain ⟨j,b⟩:=jb
  unfold W9
  simp only [hst]
  rfl
def a0I (dsts:List (Option Nat)) (all:List Oper):List Nat→S→(S→Prop)→Prop
 | [],s,K=>K s
 | i::l,s,K=>match all[i]? with
  | some o=>W9 f7 dsts all i o s (fun s=>a0I dsts all l s K)
  | none=>a0I dsts all l s K
theorem a5d {dsts:List (Option Nat)} {all:List Oper}:∀(l:List Oper) (i:Nat) (s:S) (K:S→Prop),all.drop i=l→b81 f7 dsts all i l s K→a0I dsts all (List.range' i l.length) s K
 | [],i,s,K,_,h=>h
 | o::l,i,s,K,hl,h=>by
  have hi:i<all.length:=by
   rcases c9N i all.length with h1|h1
   ·exact h1
   ·rw [c9R h1] at hl;cases hl
  rw [c98 hi] at hl
  injection hl with h1 h2
  rw [c9a,List.range'_succ,a0I,c8T hi,h1]
  simp only
  rw [b81] at h
  refine execD_mono (fun s hs=>?_) h
  exact a5d l (i+1) s K h2 hs
where
 execD_mono {dsts:List (Option Nat)} {all:List Oper} {i:Nat} {o:Oper} {s:S} {K K':S→Prop} (hK:∀s,K s→K' s) (h:W9 f7 dsts all i o s K):W9 f7 dsts all i o s K':=by
  have hst:∀ {s:S} {dst:Option Nat} {op:Op},U0 f7 all i s dst K op→U0 f7 all i s dst K' op:=fun {s dst op} h=>by
   unfold U0 at h ⊢
   split at h
   ·split at h
    ·split at h
     ·exact L8.mono h fun v o' ks hk=>hK _ hk
     ·split at h
      ·exact a1F.mono h fun v o' hk=>⟨hk.1,hK _ hk.2⟩
      ·exact a0i hK h
    ·exact a0i hK h
   ·exact a0i hK h
  obtain ⟨dst,op,type,pos,after,gd⟩:=o
  cases gd with
  | none=>exact hst h
  | some jb =>
   obtain ⟨j,b⟩:=jb
   have h':guard s dsts j (fun
    | some c=>match bEq c b with
     | true=>U0 f7 all i s dst K op
     | false=>K (s.put dst Z6)
    | none=>K (s.put dst Z6)):=h
   obtain ⟨c,h1,h2⟩:=a1n h'
   show guard s dsts j (fun
    | some c=>match bEq c b with
     | true=>U0 f7 all i s dst K' op
     | false=>K' (s.put dst Z6)
    | none=>K' (s.put dst Z6))
   refine h2 _ ?_
   cases c with
   | none=>exact hK _ h1
   | some c =>
    simp only at h1 ⊢
    cases hb:bEq c b with
    | true=>rw [hb] at h1;exact hst h1
    | false=>rw [hb] at h1;exact hK _ h1
theorem b6r {ks:List Nat}:∀ {t:List V} {i j:Nat},G4 (n6 t i) (n6 t j)=true→G4 (n6 (A2 ks t) i) (n6 (A2 ks t) j)=true:=by
 induction ks with
 | nil=>intro t i j h;exact h
 | cons k ks ih =>
  intro t i j h
  rw [A2]
  refine ih ?_
  rw [a1c,a1c]
  exact b2e (kk:=some k) h
theorem PP.called {prs:List (Nat×Nat)} {s:S} (h:PP prs s) {ks:List Nat} {d:Option Nat} {v:V} {o':List O} (hf:b8E prs d):PP prs (S.put ⟨A2 ks s.t,o'⟩ d v):=fun p hp=>by
 have key:∀i,d≠some i→n6 (S.put ⟨A2 ks s.t,o'⟩ d v).t i=n6 (A2 ks s.t) i:=fun i hi=>by
  cases d with
  | none=>rfl
  | some x =>
   show n6 (E6 (A2 ks s.t) x v) i=_
   rw [a1Y (fun e=>hi (by rw [e]))]
 rw [key _ (hf p hp).1,key _ (hf p hp).2]
 exact b6r (h p hp)
theorem b39 {dsts:List (Option Nat)} {prs:List (Nat×Nat)} {all:List Oper} {i:Nat} {o:Oper} {s:S} {K:S→Prop} (hP:PP prs s) (hf:b8E prs o.dst) (h:W9 f7 dsts all i o s K):W9 f7 dsts all i o s (fun s'=>PP prs s'∧K s'):=by
 obtain ⟨dst,op,type,pos,after,gd⟩:=o
 have hst:∀ {K:S→Prop},U0 f7 all i s dst K op→U0 f7 all i s dst (fun s'=>PP prs s'∧K s') op:=fun {K} h=>by
  have h0:∀ {K:S→Prop} {op:Op},C9 f7 false s dst K op→C9 f7 false s dst (fun s'=>PP prs s'∧K s') op:=fun {K op} h=>a0i (fun s' ⟨⟨kk,v,o',e⟩,hk⟩=>⟨by rw [e];exact hP.next hf,hk⟩) (a7V h)
  unfold U0 at h ⊢
  split at h
  ·split at h
   ·split at h
    ·exact L8.mono h fun v o' ks hk=>⟨hP.called hf,hk⟩
    ·split at h
     ·exact a1F.mono h fun v o' hk=>⟨hk.1,hP.called (ks:=[]) hf,hk.2⟩
     ·exact h0 h
   ·exact h0 h
  ·exact h0 h
 cases gd with
 | none=>exact hst h
 | some jb =>
  obtain ⟨j,b⟩:=jb
  have h':guard s dsts j (fun
   | some c=>match bEq c b with
    | true=>U0 f7 all i s dst K op
    | false=>K (s.put dst Z6)
   | none=>K (s.put dst Z6)):=h
  obtain ⟨c,h1,h2⟩:=a1n h'
  have hv:PP prs (s.put dst Z6):=hP.next (kk:=none) (o':=s.o) hf
  show guard s dsts j (fun
   | some c=>match bEq c b with
    | true=>U0 f7 all i s dst (fun s'=>PP prs s'∧K s') op
    | false=>PP prs (s.put dst Z6)∧K (s.put dst Z6)
   | none=>PP prs (s.put dst Z6)∧K (s.put dst Z6))
  refine h2 _ ?_
  cases c with
  | none=>exact ⟨hv,h1⟩
  | some c =>
   simp only at h1 ⊢
   cases hb:bEq c b with
   | true=>rw [hb] at h1;exact hst h1
   | false=>rw [hb] at h1;exact ⟨hv,h1⟩
theorem b2f {dsts:List (Option Nat)} {prs:List (Nat×Nat)} {all:List Oper} {i:Nat} {o:Oper} {s:S} {K:S→Prop} (hP:PP prs s) (hk:a7W prs o) (h:W9 f7 dsts all i o s K):W9 f7 dsts all i o s (fun s'=>PP prs s'∧K s'):=by
 cases ha:N3 o.op with
 | none=>exact b39 hP (a5c hk ha) h
 | some j =>
  have e:∀K:S→Prop,W9 f7 dsts all i o s K=l6 f7 dsts o s K:=fun K=>by
   obtain ⟨dst,op,type,pos,after,gd⟩:=o
   simp only at ha
   have e1:∀(s:S) (K:S→Prop),U0 f7 all i s dst K op=C9 f7 false s dst K op:=fun s K=>by
    unfold N3 at ha
    split at ha <;> first|rfl|cases ha
   cases gd with
   | none=>exact e1 s K
   | some jb =>
    obtain ⟨j,b⟩:=jb
    unfold W9
    simp only [e1]
    rfl
  rw [e] at h ⊢
  exact a3e hP hk h
theorem a5X {dsts:List (Option Nat)} {prs:List (Nat×Nat)} {all:List Oper} {y:Nat} {oy:Oper} (hoy:all[y]?=some oy) (hty:a7Y all y):∀ {pre post:List Nat} {s:S} {K:S→Prop},(∀x∈pre,a7Y all x∧∀ox,all[x]?=some ox→a4n dsts prs ox oy=true∧a7W prs ox)→PP prs s→a0I dsts all (pre++y::post) s K→a0I dsts all (y::(pre++post)) s K
 | [],post,s,K,_,_,h=>h
 | x::pre,post,s,K,ha,hP,h=>by
  rw [c9G,a0I] at h
  obtain ⟨hx,hxx⟩:=ha x (c8V ..)
  cases hox:all[x]? with
  | none =>
   rw [hox] at h
   have h1:=a5X hoy hty (fun z hz=>ha z (c8X _ hz)) hP h
   rw [a0I,hoy] at h1 ⊢
   simp only at h1 ⊢
   refine a5d.execD_mono (fun s hs=>?_) h1
   rw [c9G,a0I,hox]
   exact hs
  | some ox =>
   rw [hox] at h
   simp only at h
   obtain ⟨hap,hf⟩:=hxx ox hox
   rw [a2b hx] at h
   have h2:l6 f7 dsts ox s fun s=>l6 f7 dsts oy s fun s=>a0I dsts all (pre++post) s K:=U4 (fun s hs=>by
    have:=a5X hoy hty (fun z hz=>ha z (c8X _ hz)) hs.1 hs.2
    rw [a0I,hoy] at this
    simp only at this
    rw [a2b hty] at this
    exact this) (a3e hP hf h)
   rw [a0I,hoy]
   simp only
   rw [a2b hty]
   have h3:=c33 hap hP h2
   refine U4 (fun s hs=>?_) h3
   rw [c9G,a0I,hox]
   simp only
   rw [a2b hx]
   exact hs
theorem a4o {dsts:List (Option Nat)} {an:List (List Nat)} {i:Nat} {oi:Oper}:∀ {l:List Oper} {j:Nat} {r:List Nat},P9 dsts an i oi j l=some r→∀(m:Nat) (o:Oper),l[m]?=some o→j+m≠i →
  (j+m<i→(an.getD i []).contains (j+m)=true∨((J8 o.dst (v6 dsts oi) && J8 oi.dst (v6 dsts o) && (o.dst.isNone || o.dst != oi.dst))=true∧∃ks,a1m dsts o=some ks∧∀k∈ks,k∈r))∧(i<j+m→(an.getD (j+m) []).contains i=true)
 | [],j,r,h,m,o,hm,_=>by simp at hm
 | x::l,j,r,h,m,o,hm,hne=>by
  rw [P9] at h
  cases m with
  | zero =>
   simp at hm
   subst hm
   rw [d0g] at hne ⊢
   rw [show Nat.beq j i=false by rw [←Bool.not_eq_true,Nat.beq_eq];exact hne] at h
   simp only at h
   split at h
   ·rename_i hlt
    rw [d0d] at hlt
    refine ⟨fun _=>?_,fun h'=>by omega⟩
    split at h
    ·exact .inl (by assumption)
    ·split at h
     ·rename_i hn
      split at h
      ·rename_i ks hks
       split at h
       ·rename_i ms hms
        have h:=Option.some.inj h
        exact .inr ⟨hn,ks,hks,fun k hk=>by rw [←h];exact d0t _ hk⟩
       ·cases h
      ·cases h
     ·cases h
   ·rename_i hlt
    have hlt:¬j<i:=fun h=>by rw [←d0d] at h;rw [h] at hlt;cases hlt
    refine ⟨fun h'=>absurd h' hlt,fun _=>?_⟩
    split at h
    ·assumption
    ·cases h
  | succ m =>
   have hm:l[m]?=some o:=by simpa using hm
   have e:j+(m+1)=j+1+m:=by omega
   rw [e] at hne ⊢
   have T1:∀ {r':List Nat},P9 dsts an i oi (j+1) l=some r'→(∀k∈r',k∈r)→_:=fun {r'} h' hr=>by
    obtain ⟨h1,h2⟩:=a4o h' m o hm hne
    exact (⟨fun hl=>(h1 hl).imp id fun ⟨h3,ks,h4,h5⟩=>⟨h3,ks,h4,fun k hk=>hr k (h5 k hk)⟩,h2⟩:(j+1+m<i→(an.getD i []).contains (j+1+m)=true∨((J8 o.dst (v6 dsts oi) && J8 oi.dst (v6 dsts o) && (o.dst.isNone || o.dst != oi.dst))=true∧∃ks,a1m dsts o=some ks∧∀k∈ks,k∈r))∧(i<j+1+m→(an.getD (j+1+m) []).contains i=true))
   split at h
   ·exact T1 h fun _ hk=>hk
   ·split at h
    ·split at h
     ·exact T1 h fun _ hk=>hk
     ·split at h
      ·split at h
       ·split at h
        ·rename_i ms hms
         have h:=Option.some.inj h
         exact T1 hms fun k hk=>by rw [←h];exact c9X _ hk
        ·cases h
       ·cases h
      ·cases h
    ·split at h
     ·exact T1 h fun _ hk=>hk
     ·cases h
theorem a39 {all:List Oper} {i:Nat} {l:List Nat} (h:a2v all i=some l):∃dst x args ts ty p a,all[i]?=some ⟨dst,.call ⟨.value x,args,ts⟩,ty,p,a,none⟩∧P9 (l8 all) (H9 all []) i ⟨dst,.call ⟨.value x,args,ts⟩,ty,p,a,none⟩ 0 all=some l:=by
 unfold a2v at h
 split at h
 ·rename_i oi hoi
  have h1:=a1T hoi
  split at h
  ·rename_i hc
   rw [c8Z] at hc
   obtain ⟨dst,op,ty,p,a,g⟩:=oi
   obtain ⟨hc1,hc2⟩:=hc
   simp only at hc1 hc2
   obtain rfl:g=none:=d0K.1 hc2
   unfold a6U at hc1
   split at hc1
   ·exact ⟨_,_,_,_,_,_,_,h1,h⟩
   ·cases hc1
  ·cases h
 ·cases h
theorem b2g:∀ {l:List Oper} {o:Oper},o∈l→o.dst∈l8 l
 | [],o,h=>by simp at h
 | x::l,o,h=>by
  rw [l8]
  rcases c9e.1 h with rfl|h
  ·exact c8V ..
  ·exact c8X _ (b2g h)
theorem b0H:∀ {l:List (Option Nat)} {i:Nat},some i∈l→inD l i=true
 | [],i,h=>by simp at h
 | none::l,i,h=>by rw [inD];exact b0H (by simpa using h)
 | some x::l,i,h=>by
  rw [inD]
  split
  ·rfl
  ·rename_i hx
   rcases c9e.1 h with h|h
   ·have h:=Option.some.inj h
    rw [C1.2 h.symm] at hx
    cases hx
   ·exact b0H h
theorem Y0 {dsts:List (Option Nat)} {an:List (List Nat)} {i:Nat} {oi:Oper}:∀ {l:List Oper} {j:Nat} {r:List Nat},P9 dsts an i oi j l=some r→∀k∈r,inD dsts k=false
 | [],j,r,h,k,hk=>by rw [P9] at h;have h:=Option.some.inj h;subst h;simp at hk
 | x::l,j,r,h,k,hk=>by
  rw [P9] at h
  split at h
  ·exact Y0 h k hk
  ·split at h
   ·split at h
    ·exact Y0 h k hk
    ·split at h
     ·split at h
      ·rename_i ks hks
       split at h
       ·rename_i ms hms
        have h:=Option.some.inj h
        subst h
        rcases c99.1 hk with hk|hk
        ·unfold a1m at hks
         split at hks
         ·split at hks
          ·cases hks
          ·rename_i hin
           have hks:=Option.some.inj hks
           subst hks
           rw [c97.1 hk]
           exact hin
         ·split at hks
          ·have hks:=Option.some.inj hks
           subst hks
           simp at hk
          ·cases hks
        ·exact Y0 hms k hk
       ·cases h
      ·cases h
     ·cases h
   ·split at h
    ·exact Y0 h k hk
    ·cases h
theorem c6n {all:List Oper} {prs:List (Nat×Nat)} {y:Nat} {oy ox:Oper} {l ks:List Nat} (hoy:all[y]?=some oy) (hty:a6w all y=false) (hby:a2v all y=some l) (hn:(J8 ox.dst (v6 (l8 all) oy) && J8 oy.dst (v6 (l8 all) ox) && (ox.dst.isNone || ox.dst != oy.dst))=true) (hk:a1m (l8 all) ox=some ks) (hkl:∀k∈ks,k∈l) (hap:a4n (l8 all) prs ox oy=true) (hxm:ox∈all)
  {s:S} (hP:PP prs s) {R:S→Prop} (h:l6 f7 (l8 all) ox s fun s=>W9 f7 (l8 all) all y oy s R):W9 f7 (l8 all) all y oy s fun s=>l6 f7 (l8 all) ox s R:=by
 obtain ⟨dst,x,args,ts,ty,p,a,hoy',_⟩:=a39 hby
 rw [hoy] at hoy'
 have hoy':=Option.some.inj hoy'
 subst hoy'
 simp only [c8Z] at hn
 obtain ⟨⟨hn1,hn2⟩,hn3⟩:=hn
 have pt:∃v,W9 f7 (l8 all) all y ⟨dst,.call ⟨.value x,args,ts⟩,ty,p,a,none⟩ (s.put ox.dst v) R∧∀(s':S) (K':S→Prop),a7O (v6 (l8 all) ox) s s'→a2r l s.t s.o s'.o→K' (s'.put ox.dst v)→l6 f7 (l8 all) ox s' K':=by
  unfold a1m at hk
  split at hk
  ·rename_i d t k ty' p' a'
   split at hk
   ·cases hk
   have hk:=Option.some.inj hk
   subst hk
   obtain ⟨v,h1,h2⟩:=a6X _ (show G3 f7 s.o (fun v=>W9 f7 (l8 all) all y ⟨dst,.call ⟨.value x,args,ts⟩,ty,p,a,none⟩ (s.put d v) R) t (n6 s.t k) from h)
   refine ⟨v,h1,fun s' K' hs hkp hk'=>?_⟩
   show G3 f7 s'.o (fun v=>K' (s'.put d v)) t (n6 s'.t k)
   have hsl:n6 s'.t k=n6 s.t k:=hs k (by simp [v6,Op.operands,tmps])
   rw [hsl,←a7X (os:=s.o) (fun j hj=>?_)]
   ·exact h2 _ hk'
   ·exact hkp k (hkl k (by simp)) j (by rcases hj with ⟨o,e⟩|⟨i,z,o,e⟩ <;> rw [e] <;> rfl)
  ·split at hk
   ·rename_i hb
    obtain ⟨v,h1,h2⟩:=a4Y hb h
    exact ⟨v,h1,fun s' K' hs _ hk'=>h2 s' K' hs hk'⟩
   ·cases hk
 obtain ⟨v,h1,h2⟩:=pt
 have hsT:a7O (v6 (l8 all) ⟨dst,.call ⟨.value x,args,ts⟩,ty,p,a,none⟩) s (s.put ox.dst v):=a1d hn1
 have hops:∀z∈(Op.call ⟨.value x,args,ts⟩).operands.toList,(s.put ox.dst v).get z=s.get z:=fun z hz=>by
  cases z with
  | tmp i =>
   show n6 (s.put ox.dst v).t i=n6 s.t i
   exact hsT i (by unfold v6;exact c9X _ (a4W hz))
  | _=>rfl
 have hget:(s.put ox.dst v).get x=s.get x:=hops x (by simp [Op.operands,Call.operands])
 have hgets:∀l:List Operand,(∀z∈l,z∈(Op.call ⟨.value x,args,ts⟩).operands.toList)→H0 (s.put ox.dst v).get l=H0 s.get l:=by
  intro l
  induction l with
  | nil=>intro _;rfl
  | cons z l ih=>intro hz;rw [H0,H0,hops z (hz z (c8V ..)),ih fun z' h'=>hz z' (c8X _ h')]
 have hargs:H0 (s.put ox.dst v).get args.toList=H0 s.get args.toList:=hgets _ fun z hz=>by
  have hz:z∈args:=by simpa using hz
  simp [Op.operands,Call.operands,hz]
 have ho:(s.put ox.dst v).o=s.o:=a3W ..
 have hturn:a4S (a93 all y) (s.put ox.dst v) x args.toList=a4S (a93 all y) s x args.toList:=by
  unfold a4S
  rw [hget,hargs,ho]
 have e0:∀(s:S) (R:S→Prop),W9 f7 (l8 all) all y ⟨dst,.call ⟨.value x,args,ts⟩,ty,p,a,none⟩ s R=match a4S (a93 all y) s x args.toList with
   | some (f,vs)=>f7.callx f vs l s (fun v s'=>R (s'.put dst v))
   | none=>l6 f7 (l8 all) ⟨dst,.call ⟨.value x,args,ts⟩,ty,p,a,none⟩ s R:=fun s R=>by
  show U0 f7 all y s dst R (.call ⟨.value x,args,ts⟩)=_
  rw [U0]
  cases a4S (a93 all y) s x args.toList with
  | none=>rfl
  | some fv=>obtain ⟨f,vs⟩:=fv;simp only [hty,hby]
 rw [e0] at h1 ⊢
 rw [hturn] at h1
 cases hT:a4S (a93 all y) s x args.toList with
 | none =>
  rw [hT] at h1
  simp only at h1 ⊢
  refine c33 hap hP ?_
  exact h2 s (fun s=>l6 f7 (l8 all) ⟨dst,.call ⟨.value x,args,ts⟩,ty,p,a,none⟩ s R) (fun _ _=>rfl) (fun _ _ _ _=>rfl) h1
 | some fv =>
  obtain ⟨f,vs⟩:=fv
  rw [hT] at h1
  simp only at h1 ⊢
  have h1:a1F f vs (s.put ox.dst v).o fun u o'=>a2r l (s.put ox.dst v).t (s.put ox.dst v).o o'∧R (S.put ⟨(s.put ox.dst v).t,o'⟩ dst u):=h1
  rw [ho] at h1
  refine a1F.mono h1 fun u o' ⟨hkp,hR⟩=>?_
  have hkp':a2r l s.t s.o o':=fun i hi k hik=>by
   by_cases hd:ox.dst=some i
   ·-- a loaded variable's slot is not filled here
    exfalso
    obtain ⟨_,_,_,_,_,_,_,_,hbl⟩:=a39 hby
    have h5:=Y0 hbl i hi
    rw [b0H (by rw [←hd];exact b2g hxm)] at h5
    cases h5
   ·refine hkp i hi k ?_
    rw [show n6 (s.put ox.dst v).t i=n6 s.t i by
     cases hxd:ox.dst with
     | none=>rfl
     | some d=>exact a1Y fun e=>hd (by rw [hxd,e])]
    exact hik
  refine ⟨hkp',h2 _ R (fun t ht=>?_) (by rw [a3W];exact hkp') ?_⟩
  ·cases hd:dst with
   | none=>rfl
   | some d=>exact a1Y fun e=>by subst e;exact H6 hn2 _ hd ht
  ·have hcm:(S.put ⟨s.t,o'⟩ dst u).put ox.dst v=S.put ⟨(s.put ox.dst v).t,o'⟩ dst u:=by
    rw [a1Z (fun z hz hz'=>by
     rw [c96] at hn3
     rcases hn3 with h|h
     ·rw [hz'] at h;cases h
     ·rw [hz',hz] at h;simp at h)]
    cases ox.dst <;> rfl
   rw [hcm]
   exact hR
theorem a4p {prs:List (Nat×Nat)} {all:List Oper} {y:Nat} {oy:Oper} {l:List Nat} (hoy:all[y]?=some oy) (hty:a6w all y=false) (hby:a2v all y=some l):∀ {pre post:List Nat} {s:S} {K:S→Prop},(∀x∈pre,a7Y all x∧∀ox,all[x]?=some ox→a4n (l8 all) prs ox oy=true∧a7W prs ox∧(J8 ox.dst (v6 (l8 all) oy) && J8 oy.dst (v6 (l8 all) ox) && (ox.dst.isNone || ox.dst != oy.dst))=true∧∃ks,a1m (l8 all) ox=some ks∧∀k∈ks,k∈l)→PP prs s→a0I (l8 all) all (pre++y::post) s K→a0I (l8 all) all (y::(pre++post)) s K
 | [],post,s,K,_,_,h=>h
 | x::pre,post,s,K,ha,hP,h=>by
  rw [c9G,a0I] at h
  obtain ⟨hx,hxx⟩:=ha x (c8V ..)
  cases hox:all[x]? with
  | none =>
   rw [hox] at h
   have h1:=a4p hoy hty hby (fun z hz=>ha z (c8X _ hz)) hP h
   rw [a0I,hoy] at h1 ⊢
   simp only at h1 ⊢
   refine a5d.execD_mono (fun s hs=>?_) h1
   rw [c9G,a0I,hox]
   exact hs
  | some ox =>
   rw [hox] at h
   simp only at h
   obtain ⟨hap,hf,hn,ks,hks,hkl⟩:=hxx ox hox
   rw [a2b hx] at h
   have h2:l6 f7 (l8 all) ox s fun s=>W9 f7 (l8 all) all y oy s fun s=>a0I (l8 all) all (pre++post) s K:=U4 (fun s hs=>by
    have:=a4p hoy hty hby (fun z hz=>ha z (c8X _ hz)) hs.1 hs.2
    rw [a0I,hoy] at this
    exact this) (a3e hP hf h)
   rw [a0I,hoy]
   simp only
   have h3:=c6n (prs:=prs) hoy hty hby hn hks hkl hap (c9h hox) hP h2
   refine a5d.execD_mono (fun s hs=>?_) h3
   rw [c9G,a0I,hox]
   simp only
   rw [a2b hx]
   exact hs
def b3A (dsts:List (Option Nat)) (prs:List (Nat×Nat)) (ops:List Oper) (an:List (List Nat)) (j i:Nat):Bool:=(an.getD i []).contains j || match ops[j]?,ops[i]? with|some x,some y=>a4n dsts prs x y|_,_=>true
def b0I (ops:Array Oper):Bool :=
 let l:=ops.toList
 let an:=H9 l []
 let d:=l8 l
 l.all (b80 (a0t l)) && (List.range l.length).all fun i=>(an.getD i []).all (fun j=>Nat.blt j i) && (List.range i).all fun j=>b3A d (a0t l) l an j i
theorem a7Z:∀(l:List Oper) (acc:List (List Nat)) (i:Nat),i<acc.length→(H9 l acc)[i]?=acc[i]?
 | [],acc,i,_=>rfl
 | o::l,acc,i,h=>by rw [H9,a7Z l _ i (by simp;omega),c9l h]
theorem b4L:∀(l:List Oper) (acc:List (List Nat)) (i:Nat) (o:Oper),l[i]?=some o→(H9 l acc)[acc.length+i]?=some ((a3a o).flatMap fun j=>j::(if j<acc.length+i then (H9 l acc).getD j [] else []))
 | [],acc,i,o,h=>by simp at h
 | x::l,acc,0,o,h=>by
  simp at h
  subst h
  rw [H9,d0g,a7Z l _ _ (by simp),c9b (c9c _)]
  simp only [d0h,d0U,Option.some.injEq]
  congr 1
  funext j
  congr 1
  split
  ·rename_i hj
   rw [c9k,c9k,a7Z l _ j (by simp;omega),c9l hj]
  ·rename_i hj
   rw [c9k,c9H (by omega)]
   rfl
 | x::l,acc,i+1,o,h=>by
  have:=b4L l (acc++[(a3a x).flatMap fun j=>j::acc.getD j []]) i o (by simpa using h)
  rw [H9]
  have e:(acc++[(a3a x).flatMap fun j=>j::acc.getD j []]).length+i=acc.length+(i+1):=by simp;omega
  rw [e] at this
  exact this
section
variable {I0:Nat→Nat→Prop} {X:Nat→Prop} {w0:W0} {s:S} {a:Act} {w:World}
theorem c6o {ro:Option Nat} {n:Nat} {ops:Array Oper} {Q:Exit→Act→World→Prop} {o:Oper} (hop:a05 Try.prog o.op=true) (h:Rel I0 X w0 s a w) {K1:S→Prop} {ix:Nat} (hx:W9 f7 (l8 ops.toList) ops.toList ix o s K1) {Kw:Act→World→Prop} (hKw:∀s' a' w',Rel I0 X w0 s' a' w'→K1 s'→Kw a' w'):if Region.wanted o (yielded ops a.tmps) then o.wpIn (FW ro) n Try.prog a w Kw Q else (∀f,o.about Try.prog w a.eval=some f→(FW ro).fn f)∧Kw (a.put o.dst undef) w:=by
 obtain ⟨dst,op,type,pos,after,gd⟩:=o
 have hstep:U0 f7 ops.toList ix s dst K1 op→Oper.wpIn (FW ro) n Try.prog ⟨dst,op,type,pos,after,gd⟩ a w Kw Q:=fun hs=>by
  obtain ⟨I,g,h⟩:=h
  have h0:C9 f7 false s dst K1 op→Oper.wpIn (FW ro) n Try.prog ⟨dst,op,type,pos,after,gd⟩ a w Kw Q:=fun hs=>a95 (fun c hc=>a1W hop c hc) (Oper.wp_mono (fun a' w' ⟨s',h1,h2⟩=>hKw s' a' w' h1 h2) (b0C h (o:=⟨dst,op,type,pos,after,gd⟩) (Q:=Q) hop hs))
  unfold U0 at hs
  split at hs
  ·rename_i x args ts
   split at hs
   ·rename_i f vs hf
    split at hs
    ·unfold a4S at hf
     split at hf <;> try cases hf
     rename_i f' ks hfn
     replace hf:some (f',a2G (H0 s.get args.toList) (a7q ks))=some (f,vs):=by
      split at hf
      ·exact hf
      ·split at hf
       ·cases hf
       ·exact hf
     injection hf with hf
     injection hf with e1 e2
     subst e1
     obtain ⟨cs,hc1,hc2⟩:=b8u h hfn
     refine a95 (fun c hc=>a1W hop c hc) (Oper.wp_mono (fun a' w' ⟨s',h1,h2⟩=>hKw s' a' w' h1 h2) (a7H h (o:=⟨dst,.call ⟨.value x,args,ts⟩,type,pos,after,gd⟩) (fun hf=>a1b (cs:=cs) rfl hc1 hf) ?_ hs))
     rw [←e2,a0s]
     exact (h.gets args.toList).append hc2
    ·split at hs
     ·unfold a4S at hf
      split at hf <;> try cases hf
      rename_i f' ks hfn
      replace hf:some (f',a2G (H0 s.get args.toList) (a7q ks))=some (f,vs):=by
       split at hf
       ·exact hf
       ·split at hf
        ·cases hf
        ·exact hf
      injection hf with hf
      injection hf with e1 e2
      subst e1
      obtain ⟨cs,hc1,hc2⟩:=b8u h hfn
      refine a95 (fun c hc=>a1W hop c hc) (Oper.wp_mono (fun a' w' ⟨s',h1,h2⟩=>hKw s' a' w' h1 h2) (b8s h (o:=⟨dst,.call ⟨.value x,args,ts⟩,type,pos,after,gd⟩) (fun hf=>a1b (cs:=cs) rfl hc1 hf) ?_ hs))
      rw [←e2,a0s]
      exact (h.gets args.toList).append hc2
     ·exact h0 hs
   ·exact h0 hs
  ·exact h0 hs
 have hskip:K1 (s.put dst Z6)→Kw (a.put dst undef) w:=fun hs=>by
  obtain ⟨I,g,h⟩:=h
  exact hKw _ _ w ⟨I,g,h.put (x:=Z6) (.tu [] [] rfl (fun i u c hu _=>by simp at hu)) dst⟩ hs
 cases gd with
 | none =>
  rw [c8Y (by rfl)]
  exact hstep hx
 | some jb =>
  obtain ⟨j,b⟩:=jb
  have hx':guard s (l8 ops.toList) j (fun
   | some c=>match bEq c b with
    | true=>U0 f7 ops.toList ix s dst K1 op
    | false=>K1 (s.put dst Z6)
   | none=>K1 (s.put dst Z6)):=hx
  obtain ⟨c,hc,hK⟩:=a7K h hx'
  have hw:Region.wanted ⟨dst,op,type,pos,after,some (j,b)⟩ (yielded ops a.tmps)=(c == some b):=by simp [Region.wanted,hc]
  rw [hw]
  cases c with
  | none =>
   rw [c8W (by simp)]
   exact ⟨fun _ _=>trivial,hskip hK⟩
  | some c =>
   simp only at hK
   split at hK
   ·rename_i hb
    rw [a1G] at hb
    rw [c8Y (by simpa using hb)]
    exact hstep hK
   ·rename_i hb
    rw [a1G] at hb
    rw [c8W (by simpa using hb)]
    exact ⟨fun _ _=>trivial,hskip hK⟩
theorem b4M {ops:Array Oper} {i:Nat} {o:Oper} (h:ops[i]?=some o) (hlt:∀j∈(H9 ops.toList []).getD i [],j<i):(H9 ops.toList []).getD i []=(a3a o).flatMap fun j=>j::(H9 ops.toList []).getD j []:=by
 have h1:=b4L ops.toList [] i o (by simpa using h)
 simp only [c9n,c9L] at h1
 have h2:(H9 ops.toList []).getD i []=(a3a o).flatMap fun j=>j::(if j<i then (H9 ops.toList []).getD j [] else []):=by
  rw [c9k,h1];rfl
 have h3:∀j∈a3a o,j<i:=fun j hj=>hlt j (by rw [h2];exact c9K.2 ⟨j,hj,c8V ..⟩)
 rw [h2,List.flatMap_def,List.flatMap_def]
 congr 1
 exact d0i fun j hj=>by rw [c8Y (h3 j hj)]
theorem a8a {o:Oper} {e:Edge} (he:e∈o.after) (hb:Region.binds .any e=true):e.on∈a3a o:=d0o.2 ⟨e,d02.2 ⟨by simpa using he,hb⟩,rfl⟩
theorem c17 {ro:Option Nat} {n:Nat} {ops:Array Oper} {Q:Exit→Act→World→Prop} {K:S→Prop} (hQ:∀s' a' w',Rel I0 X w0 s' a' w'→K s'→Q .normal a' w') (hok:b83 Try.prog ops.toList=true) (hd:b0I ops=true) (hfree:∀o∈ops.toList,a7W (a0t ops.toList) o):∀(fuel:Nat) (l:List Nat) (listed:Array Bool) (s:S) (a:Act) (w:World),l.length=fuel→listed.size=ops.size→l.Pairwise (·<·)→(∀i,i∈l↔i<ops.size∧listed.getD i true=false)→(∀i,i<ops.size→listed.getD i false=true→∀j∈(H9 ops.toList []).getD i [],listed.getD j false=true)→Rel I0 X w0 s a w→PP (a0t ops.toList) s→a0I (l8 ops.toList) ops.toList l s K→wpAnyIn (FW ro) n Try.prog .any ops Q fuel listed a w:=by
 have hd':∀i,i<ops.size→(∀j∈(H9 ops.toList []).getD i [],j<i)∧∀j,j<i→b3A (l8 ops.toList) (a0t ops.toList) ops.toList (H9 ops.toList []) j i=true:=fun i hi=>by
  have h1:=c9s.1 (Bool.and_eq_true_iff.1 hd).2 i (by simpa using hi)
  rw [c8Z] at h1
  exact ⟨fun j hj=>by simpa [d0d] using c9s.1 h1.1 j hj,fun j hj=>c9s.1 h1.2 j (by simpa using hj)⟩
 intro fuel
 induction fuel with
 | zero =>
  intro l listed s a w hl hsz hp hmem hcl hrel hPP hK
  obtain rfl:=List.length_eq_zero_iff.1 hl
  refine ⟨?_,hQ _ _ _ hrel hK⟩
  cases hr:Region.ready .any ops listed with
  | nil=>rfl
  | cons x xs =>
   obtain ⟨h1,o,h2,_⟩:=mem_ready.1 (show x∈Region.ready .any ops listed by rw [hr];exact c8V ..)
   have:=(hmem x).2 ⟨(c9g.1 h2).1,h1⟩
   simp at this
 | succ fuel ih =>
  intro l listed s a w hl hsz hp hmem hcl hrel hPP hK
  have un:∀j,j∈l→listed.getD j false=true→False:=fun j hj h=>by
   obtain ⟨h1,h2⟩:=(hmem j).1 hj
   simp [hsz,h1] at h h2
   rw [h2] at h;cases h
  refine ⟨fun hr=>?_,fun i hi=>?_⟩
  ·exfalso
   cases l with
   | nil=>simp at hl
   | cons i0 rest =>
    obtain ⟨h1,h2⟩:=(hmem i0).1 (c8V ..)
    obtain ⟨o,ho⟩:∃o,ops[i0]?=some o:=⟨_,c9P h1⟩
    have:i0∈Region.ready .any ops listed:=mem_ready.2 ⟨h2,o,ho,fun e he hb=>by
     have h3:e.on∈(H9 ops.toList []).getD i0 []:=by
      rw [b4M ho (hd' i0 h1).1]
      exact c9K.2 ⟨e.on,a8a he hb,c8V ..⟩
     have h4:=(hd' i0 h1).1 _ h3
     have h5:¬(e.on∈i0::rest):=fun hm=>by
      rcases c9e.1 hm with hm|hm
      ·omega
      ·have:=(c9E.1 hp).1 _ hm
       omega
     have h6:listed.getD e.on true=true:=by
      cases hx:listed.getD e.on true with
      | true=>rfl
      | false=>exact absurd ((hmem e.on).2 ⟨by omega,hx⟩) h5
     have hlt:e.on<listed.size:=by omega
     simpa [hlt] using h6⟩
    rw [hr] at this
    simp at this
  ·obtain ⟨h1,o,ho,hall⟩:=mem_ready.1 hi
   have hlt:=(c9g.1 ho).1
   have hil:i∈l:=(hmem i).2 ⟨hlt,h1⟩
   have han:∀j∈(H9 ops.toList []).getD i [],listed.getD j false=true:=fun j hj=>by
    rw [b4M ho (hd' i hlt).1] at hj
    obtain ⟨k,hk,hj⟩:=c9K.1 hj
    obtain ⟨e,he,hek⟩:=d0o.1 hk
    obtain ⟨he1,he2⟩:=d02.1 he
    subst hek
    have h3:=hall e (by simpa using he1) he2
    rcases c9e.1 hj with rfl|hj
    ·exact h3
    ·have:e.on<ops.size:=by
      rcases c9N e.on listed.size with h'|h'
      ·omega
      ·simp [Array.getElem?_eq_none h'] at h3
     exact hcl _ this h3 j hj
   obtain ⟨pre,post,rfl⟩:=List.append_of_mem hil
   have hpp:=d1h.1 hp
   have hot:ops.toList[i]?=some o:=by rw [c9D];exact ho
   have hpre:∀j∈pre,j<i∧j∉(H9 ops.toList []).getD i []:=fun j hj=>⟨hpp.2.2 j hj i (c8V ..),fun hm=>un j (d0t _ hj) (han j hm)⟩
   have tot:∀k,a6w ops.toList k=true→k<ops.size→∀j,j<ops.size→j≠k→(j<k→j∈(H9 ops.toList []).getD k [])∧(k<j→k∈(H9 ops.toList []).getD j []):=fun k hk hks j hj hjk=>by
    have h3:=c9s.1 hk j (by simpa using hj)
    simp only [c96,c8Z,Nat.beq_eq,d0d,c9W] at h3
    rcases h3 with (h3|h3)|h3
    ·exact absurd h3 hjk
    ·exact ⟨fun _=>h3.2,fun h=>by omega⟩
    ·exact ⟨fun h=>by omega,fun _=>h3.2⟩
   have hf:a0I (l8 ops.toList) ops.toList (i::(pre++post)) s K:=by
    cases hti:a6w ops.toList i with
    | true =>
     have:pre=[]:=by
      cases pre with
      | nil=>rfl
      | cons j pre =>
       obtain ⟨h3,h4⟩:=hpre j (c8V ..)
       exact absurd ((tot i hti hlt j (by omega) (by omega)).1 h3) h4
     subst this
     exact hK
    | false =>
     have hpl:∀j∈pre,a7Y ops.toList j:=fun j hj=>by
      obtain ⟨hji,hja⟩:=hpre j hj
      refine ⟨?_,?_⟩
      ·cases htj:a6w ops.toList j with
       | false=>rfl
       | true=>exact absurd ((tot j htj (by omega) i hlt (by omega)).2 hji) hja
      ·cases hbj:a2v ops.toList j with
       | none=>rfl
       | some r =>
        exfalso
        obtain ⟨_,_,_,_,_,_,_,_,hbl⟩:=a39 hbj
        have h4:=(a4o hbl i o hot (by omega)).2 (by omega)
        rw [c9L] at h4
        exact hja (by simpa using h4)
     have hap:∀j∈pre,∀ox,ops.toList[j]?=some ox→a4n (l8 ops.toList) (a0t ops.toList) ox o=true:=fun j hj ox hox=>by
      obtain ⟨hji,hja⟩:=hpre j hj
      have h3:=(hd' i hlt).2 j hji
      rw [b3A,c96] at h3
      rcases h3 with h3|h3
      ·exact absurd (by simpa using h3) hja
      ·rw [hox,hot] at h3
       exact h3
     cases hbi:a2v ops.toList i with
     | none=>exact a5X (prs:=a0t ops.toList) hot ⟨hti,hbi⟩ (fun j hj=>⟨hpl j hj,fun ox hox=>⟨hap j hj ox hox,hfree ox (c9h hox)⟩⟩) hPP hK
     | some r =>
      refine a4p (prs:=a0t ops.toList) hot hti hbi (fun j hj=>⟨hpl j hj,fun ox hox=>⟨hap j hj ox hox,hfree ox (c9h hox),?_⟩⟩) hPP hK
      obtain ⟨hji,hja⟩:=hpre j hj
      obtain ⟨_,_,_,_,_,_,_,hoi,hbl⟩:=a39 hbi
      rw [hot] at hoi
      have hoi:=Option.some.inj hoi
      subst hoi
      have h4:=(a4o hbl j ox hox (by omega)).1 (by omega)
      rw [c9L] at h4
      rcases h4 with h4|⟨h5,ks,h6,h7⟩
      ·exact absurd (by simpa using h4) hja
      ·exact ⟨h5,ks,h6,h7⟩
   rw [a0I,hot] at hf
   simp only at hf
   have hom:o∈ops.toList:=c9h hot
   have hf:=b2f hPP (hfree o hom) hf
   have key:=c6o (ro:=ro) (n:=n) (Q:=Q) (c9s.1 hok o (c9h (by rw [c9D];exact ho))) hrel hf (Kw:=wpAnyIn (FW ro) n Try.prog .any ops Q fuel (listed.setIfInBounds i true)) (fun s' a' w' hrel' hK'=>by
    refine ih (pre++post) _ s' a' w' (by simp at hl ⊢;omega) (by simpa using hsz) ?_ (fun k=>?_) (fun k hk hkl j hj=>?_) hrel' hK'.1 hK'.2
    ·exact d1h.2 ⟨hpp.1,(c9E.1 hpp.2.1).2,fun x hx y hy=>hpp.2.2 x hx y (c8X _ hy)⟩
    ·by_cases hik:i=k
     ·subst hik
      refine ⟨fun hm=>?_,fun hm=>?_⟩
      ·rcases c99.1 hm with hm|hm
       ·have:=hpp.2.2 _ hm i (c8V ..)
        omega
       ·have:=(c9E.1 hpp.2.1).1 _ hm
        omega
      ·have h6:=hm.2
       have hlt':i<listed.size:=by omega
       simp [hlt'] at h6
     ·rw [getD_set_ne true hik,←hmem k]
      simp only [c99,c9e]
      exact ⟨fun h=>h.imp id .inr,fun h=>h.imp id fun h=>h.resolve_left fun e=>hik e.symm⟩
    ·by_cases hik:i=k
     ·subst hik
      exact getD_set_true (han j hj)
     ·rw [getD_set_ne false hik] at hkl
      exact getD_set_true (hcl k hk hkl j hj))
   unfold wpOpIn
   rw [ho]
   simp only
   split at key
   ·rename_i hw
    rw [c8Y hw]
    exact key
   ·rename_i hw
    rw [c8W hw]
    exact key
theorem c18 {ro:Option Nat} {n:Nat} {ops:Array Oper} {Q:Exit→Act→World→Prop} {K:S→Prop} (hQ:∀s' a' w',Rel I0 X w0 s' a' w'→K s'→Q .normal a' w') (hok:b83 Try.prog ops.toList=true) (hd:b0I ops=true) (h:Rel I0 X w0 s a w) (hpre:b1Z (a0t ops.toList) s.t=true) (hK:b81 f7 (l8 ops.toList) ops.toList 0 ops.toList s K):wpAnyIn (FW ro) n Try.prog .any ops Q ops.size (Array.replicate ops.size false) a w:=by
 refine c17 hQ hok hd (fun o ho=>b8F (c9s.1 (Bool.and_eq_true_iff.1 hd).1 o ho)) ops.size (List.range ops.size) _ s a w (by simp) (by simp) List.pairwise_lt_range (fun i=>?_) (fun i hi h=>?_) h (c32 hpre) ?_
 ·rw [d0Y]
  exact ⟨fun hi=>⟨hi,by simp [hi]⟩,fun h=>h.1⟩
 ·simp [hi] at h
 ·have h3:=a5d ops.toList 0 s K (by simp) hK
  rw [←List.range_eq_range'] at h3
  simpa using h3
end
end
end Go.Proofs.Ytahpnackkmbmgaa.Vm
end
