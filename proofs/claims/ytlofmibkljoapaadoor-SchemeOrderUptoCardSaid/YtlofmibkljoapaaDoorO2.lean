/- Part 2 of the proof. Conditions: none. -/
import Derived.Test.YtlofmibkljoapaaDoorO1
import Derived.Lib.ConvBytes
import Derived.Laws.BytesString
import Derived.Deep.LoopGhost
import Derived.Sort.LoopGhostIn
import Derived.OrdersIn
import Derived.TacticsIn
import Derived.RangeFuncCalls
import Derived.Test.YtlofmibkljoapaaDoorO0
set_option linter.all false
set_option linter.unusedVariables false
set_option linter.unusedSimpArgs false
section
namespace Go.Proofs.YtlofmibkljoapaaDoor.Vm
open Go.RowKit
set_option maxRecDepth 100000
set_option maxHeartbeats 4000000
section
section
variable {I0:Nat->Nat->Prop} {X:Nat->Prop} {w0:W0} {I:Nat->Nat->Prop} {g:Nat->Value} {s:S} {a:Act} {w:World}
theorem a1W (b:Bool):a1O b=!b:=by cases b <;> rfl
theorem b6v (a b:Bool):orB a b=(a || b):=by cases a <;> rfl
theorem b9Z (h:RelI I0 X w0 I g s a w) {K:V->Prop} {op:BinOp} {t:Nat} (ox oy:Operand) {x y:Value} (hK:a1t a7 op x y K):Yld I0 X w0 g s a w (do eqGuard op t ox oy x y;binOp op t x y) K:=by
  unfold a1t at hK
  split at hK <;> try exact hK.elim
  · rename_i K k m k' n
    split at hK
    · rename_i hb
      have key:∀r,a62 op k m k' n=some r->(do eqGuard op t ox oy (.int k m) (.int k' n);binOp op t (.int k m) (.int k' n)).run Tryd.prog w=.ok (.int k r) w:=by
        intro r hr;unfold a62 at hr
        split at hr
        · cases n with
          | ofNat n =>
            injection hr with hr;subst hr;have h0:¬(Int.ofNat n<0):=by simp
            simp only[eqGuard,binOp,Op.shift,c2H h0];rfl
          | negSucc n=>cases hr
        · cases n with
          | ofNat n =>
            injection hr with hr;subst hr;have h0:¬(Int.ofNat n<0):=by simp
            simp only[eqGuard,binOp,Op.shift,c2H h0];rfl
          | negSucc n=>cases hr
        all_goals first
          | (exfalso;cases hr;done)
          | (split at hr
             · rename_i hk
               obtain rfl:=a5r hk;injection hr with hr;subst hr;simp only[eqGuard,binOp,Op.intBits,ne_eq,not_true,c4Y];rfl
             · cases hr)
      rw[show a7.bits op k m k' n=a62 op k m k' n from rfl] at hK;cases hr:a62 op k m k' n with
      | none=>rw[hr] at hK;exact hK.elim
      | some r =>
        rw[hr] at hK;exact yld h (key r hr) (ati k _) hK
    split at hK <;> try exact hK.elim
    rename_i hk;obtain rfl:=a5r hk;unfold binInt at hK
    split at hK <;> try exact hK.elim
    · exact yld h (by simp[eqGuard,binOp,Op.intArith];rfl) (ati k _) hK
    · exact yld h (by simp[eqGuard,binOp,Op.intArith];rfl) (ati k _) hK
    · exact yld h (by simp[eqGuard,binOp,Op.intArith];rfl) (ati k _) hK
    · have h0:n≠0:=hK.1
      exact yld h (by simp[eqGuard,binOp,Op.intDiv,h0];rfl) (ati k _) hK.2
    · have h0:n≠0:=hK.1
      exact yld h (by simp[eqGuard,binOp,Op.intDiv,h0];rfl) (ati k _) hK.2
    · exact yld h (by simp[eqGuard,binOp,Op.intCmp];rfl) (atb _) hK
    · refine yld h ?_ (atb _) hK
      simp[eqGuard,binOp,Op.intCmp,a1W]
      rfl
    · exact yld h (by simp[eqGuard,binOp,Op.intCmp];rfl) (atb _) hK
    · exact yld h (by simp[eqGuard,binOp,Op.intCmp];rfl) (atb _) hK
    · exact yld h (by simp[eqGuard,binOp,Op.intCmp];rfl) (atb _) hK
    · exact yld h (by simp[eqGuard,binOp,Op.intCmp];rfl) (atb _) hK
  · rename_i K b c
    unfold binStr at hK
    split at hK <;> try exact hK.elim
    · have h0:b.size+c.size<=4611686018427387904:=hK.1
      have h1:¬(((b.size+c.size:Nat):Int)>9223372036854775807):=by omega
      refine yld h ?_ (ats _) hK.2;simp only[eqGuard,binOp,Op.stringOp,IntKind.max_i64];rw[c2H h1];rfl
    all_goals
      refine yld h ?_ (atb _) hK;simp only[eqGuard,binOp,Op.stringOp,a1W,b6v];rfl
theorem a5t (h:RelI I0 X w0 I g s a w) {K:V->Prop} {op:BinOp} {t:Nat} (ox oy:Operand) {x y:Value} {b:Bool} (h0:∀p q,x≠.int p q) (h1:∀p q,y≠.int p q) (hx:(∃p,x=.pointer p)\/(∃p,x=.bool p)\/∃A n c,x=.slice A n c) (he:(Op.equal t x y).run Tryd.prog w=.ok b w) (hK:a2w b K op):Yld I0 X w0 g s a w (do eqGuard op t ox oy x y;binOp op t x y) K:=by
 have hg:(eqGuard op t ox oy x y).run Tryd.prog w=.ok () w:=by
  unfold eqGuard;cases op <;> rcases hx with⟨p,rfl⟩|⟨p,rfl⟩|⟨A,n,c,rfl⟩ <;> rfl
 cases op <;> try exact hK.elim
 ·refine yld h ?_ (atb _) hK;simp only[Sem.run_bind,hg,Result.andThen_ok]
  rcases hx with⟨p,rfl⟩|⟨p,rfl⟩|⟨A,n,c,rfl⟩ <;> cases y <;> first|exact absurd rfl (h1 _ _)|simp[binOp,he]
 ·refine yld h ?_ (atb _) hK;simp only[Sem.run_bind,hg,Result.andThen_ok]
  rcases hx with⟨p,rfl⟩|⟨p,rfl⟩|⟨A,n,c,rfl⟩ <;> cases y <;> first|exact absurd rfl (h1 _ _)|simp[binOp,he,a1W]
theorem c1e (h:RelI I0 X w0 I g s a w) {K:V->Prop} {op:BinOp} {t:Nat} (ox oy:Operand) {x y:Array Value} {b:Bool} (hq:Tryd.prog.eqGuardType Tryd.prog.depth t=false) (he:(Op.equal t (.agg x) (.agg y)).run Tryd.prog w=.ok b w) (hK:a2w b K op):Yld I0 X w0 g s a w (do eqGuard op t ox oy (.agg x) (.agg y);binOp op t (.agg x) (.agg y)) K:=by
 generalize hP:Tryd.prog=P at *
 have hg:∀op,(op=.eql\/op=.neq)->(eqGuard op t ox oy (.agg x) (.agg y)).run P w=.ok () w:=by
  intro op ho
  rcases ho with rfl|rfl <;> simp[eqGuard,hq]
 subst hP;cases op <;> try exact hK.elim
 ·refine yld h ?_ (atb _) hK;simp only[Sem.run_bind,hg _ (.inl rfl),Result.andThen_ok];simp only[binOp,Sem.run_bind,he,Result.andThen_ok,Sem.run_pure]
 ·refine yld h ?_ (atb _) hK;simp only[Sem.run_bind,hg _ (.inr rfl),Result.andThen_ok];simp only[binOp,Sem.run_bind,he,Result.andThen_ok,Sem.run_pure,a1W]
theorem b4W {t:Nat} {ds:List D} (h:a2o t (.ag ds)=true):(ty t).kind=.struct/\Tryd.prog.eqGuardType Tryd.prog.depth t=false:=by
 rw[a2o] at h
 split at h
 ·rename_i hst
  split at h
  ·rename_i hs;have hm:=b3k t (a6J hs);unfold b2b at hm;simp only[c2B,c49] at hm;exact⟨hst,hm.1.2⟩
  ·cases h
 ·cases h
theorem eqp {t e:Nat} (hu:Tryd.prog.underlying t=some (.pointer e)) (p:Option Addr):(Op.equal t (.pointer p) (.pointer none)).run Tryd.prog w=.ok p.isNone w/\(Op.equal t (.pointer none) (.pointer p)).run Tryd.prog w=.ok p.isNone w:=by
 have key:∀d,(Op.equalIn (d+1) t (.pointer p) (.pointer none)).run Tryd.prog w=.ok p.isNone w/\(Op.equalIn (d+1) t (.pointer none) (.pointer p)).run Tryd.prog w=.ok p.isNone w:=λd=>by
  cases p <;> simp[Op.equalIn,run_underlying hu]
 exact key 9999
theorem eqb {t:Nat} (hu:Tryd.prog.underlying t=some .bool) (b c:Bool):(Op.equal t (.bool b) (.bool c)).run Tryd.prog w=.ok (b == c) w:=by
 have key:∀d,(Op.equalIn (d+1) t (.bool b) (.bool c)).run Tryd.prog w=.ok (b == c) w:=λd=>by
  simp[Op.equalIn,run_underlying hu]
 exact key 9999
theorem eqs {t e:Nat} (hu:Tryd.prog.underlying t=some (.slice e)) (A:Option Addr) (n c:Nat):(Op.equal t (.slice A n c) (.slice none 0 0)).run Tryd.prog w=.ok A.isNone w:=by
 have key:∀d,(Op.equalIn (d+1) t (.slice A n c) (.slice none 0 0)).run Tryd.prog w=.ok A.isNone w:=λd=>by
  cases A <;> simp[Op.equalIn,run_underlying hu]
 exact key 9999
theorem a8w {u:Value} {x:V} (hu:AtV I w g u x) (h:a9p x=true):u=.pointer none:=by
 unfold a9p at h
 split at h
 ·exact hu.sc
 ·cases h
theorem c0a (h:RelI I0 X w0 I g s a w) {K:V->Prop} {op:BinOp} {t:Nat} (ht:b9V t=true) (ox oy:Operand) {u v:Value} {x y:V} (hu:AtV I w g u x) (hv:AtV I w g v y) (hK:a8h a7 op t x y K):Yld I0 X w0 g s a w (do eqGuard op t ox oy u v;binOp op t u v) K:=by
 unfold b9V at ht;unfold a8h at hK
 split at hK <;> try exact hK.elim
 ·rename_i x y;obtain rfl:=hu.sc;obtain rfl:=hv.sc
  split at hK
  ·rename_i hk;rw[hk] at ht;obtain⟨e,hun⟩:=b2e ht hk
   split at hK <;> try exact hK.elim
   exact a5t h ox oy (by simp) (by simp) (.inl ⟨_,rfl⟩) (eqp hun none).1 hK
  ·rename_i hk;rw[hk] at ht;have hun:=b3t ht hk
   split at hK <;> try exact hK.elim
   rename_i b c;rw[a01] at hK;exact a5t h ox oy (by simp) (by simp) (.inr (.inl ⟨_,rfl⟩)) (eqb hun b c) hK
  ·exact b9Z h ox oy hK
 ·rename_i y K k off
  split at hK <;> try exact hK.elim
  rename_i hk;rw[hk] at ht;obtain⟨e,hun⟩:=b2e ht hk
  split at hK <;> try exact hK.elim
  rename_i hn;obtain rfl:=a8w hv hn;obtain⟨b,_,rfl⟩:=hu.unptr;exact a5t h ox oy (by simp) (by simp) (.inl ⟨_,rfl⟩) (eqp hun _).1 hK
 ·rename_i x K k off _ _
  split at hK <;> try exact hK.elim
  rename_i hk;rw[hk] at ht;obtain⟨e,hun⟩:=b2e ht hk
  split at hK <;> try exact hK.elim
  rename_i hn;obtain rfl:=a8w hu hn;obtain⟨b,_,rfl⟩:=hv.unptr;exact a5t h ox oy (by simp) (by simp) (.inl ⟨_,rfl⟩) (eqp hun _).2 hK
 ·rename_i K sz rows
  split at hK <;> try exact hK.elim
  rename_i hk;have hk:(ty t).kind=.slice:=by revert hk;cases (ty t).kind <;> intro hk <;> first|rfl|cases hk
  rw[hk] at ht;have ht:(c8 t && (ty t).elem.isSome)=true:=ht;rw[c2B] at ht;obtain⟨e,he⟩:=c40.1 ht.2;have hun:=E4 ht.1 he;rw[hv.unem];cases hu with
  | d hd =>
   obtain⟨A,cap,rfl,hcap,hr⟩:=hd.slice;have hne:rows≠[]:=λe=>hK.1 (by rw[e];rfl)
   rcases hr with hr|⟨b,off,us,rfl,_⟩
   ·exact absurd hr hne
   ·exact a5t h ox oy (by simp) (by simp) (.inr (.inr ⟨_,_,_,rfl⟩)) (eqs hun _ _ _) hK.2
 ·rename_i K
  split at hK <;> try exact hK.elim
  rename_i hk;have hk:(ty t).kind=.slice:=by revert hk;cases (ty t).kind <;> intro hk <;> first|rfl|cases hk
  rw[hk] at ht;have ht:(c8 t && (ty t).elem.isSome)=true:=ht;rw[c2B] at ht;obtain⟨e,he⟩:=c40.1 ht.2;have hun:=E4 ht.1 he;rw[hv.unem,hu.unem];exact a5t h ox oy (by simp) (by simp) (.inr (.inr ⟨_,_,_,rfl⟩)) (eqs hun _ _ _) hK
 ·rename_i K xs ys
  split at hK <;> try exact hK.elim
  rename_i ds es h1 h2
  split at hK <;> try exact hK.elim
  rename_i hk1
  split at hK <;> try exact hK.elim
  rename_i hk2;obtain⟨us,rfl,hus⟩:=hu.unag;obtain⟨vs,rfl,hvs⟩:=hv.unag;have a1:=a3p (r:=.ag ds) ⟨us,rfl,a6K hus h1⟩ hk1;have a2:=a3p (r:=.ag es) ⟨vs,rfl,a6K hvs h2⟩ hk2;obtain⟨hst,hg⟩:=b4W hk1;rw[hst] at ht;have ht:(c8 t && (ty t).fty.all c8)=true:=ht;rw[c2B] at ht;have hkey:=(a97 (w:=w) ht.1 (λu hu=>c3a.1 ht.2 u hu) hk1 hk2).eq;rw[<-a1,<-a2] at hkey;exact c1e h ox oy hg hkey hK
theorem c1f (h:RelI I0 X w0 I g s a w) {K:V->Prop} {op:UnOp} {u:Value} {x:V} (hu:AtV I w g u x) (hK:unV a7 op x K):Yld I0 X w0 g s a w (Op.unary op u) K:=by
 unfold unV at hK
 split at hK <;> try exact hK.elim
 ·obtain rfl:=hu.sc;refine yld h ?_ (atb _) hK;simp only[Op.unary,a1W];rfl
 ·obtain rfl:=hu.sc;exact yld h (by simp only[Op.unary,Op.intArith];rfl) (ati _ _) hK
theorem b6w {us:List Value} {r:List D} {c:UInt8} (h:s8 I w us r) (hc:b3n r=some c):∃n:Int,us=[.int .u8 n]/\c=UInt8.ofNat n.toNat:=by
 unfold b3n at hc
 split at hc
 ·rename_i v;obtain⟨u,us',rfl,h1,h2⟩:=h.uncons;have h3:us'=[]:=c2M h2.1;subst h3;cases h1 with
  | sc _ hv =>
  unfold b91 at hc
  split at hc
  ·rename_i k n
   split at hc
   ·rename_i hk;obtain rfl:=a5r hk;injection hc with hc;exact⟨n,rfl,hc.symm⟩
   ·cases hc
  ·cases hc
 ·cases hc
theorem a8x:∀ {rows:List (List D)} {us:List Value} {l:List UInt8},s8 I w us rows.flatten->a5g rows=some l->∃ns:List Int,us=ns.map (Value.int .u8)/\l=ns.map (λn=>UInt8.ofNat n.toNat)
 | [],us,l,h,hb=>by
  injection hb with hb;subst hb;exact⟨[],c2M h.1,rfl⟩
 | r::rows,us,l,h,hb=>by
  rw[a5g] at hb
  split at hb <;> try cases hb
  rename_i c hc
  split at hb <;> try cases hb
  rename_i t ht;rw[c3x] at h
  have h1:s8 I w (us.take r.length) r:=by
   have:=h.take r.length;rw[List.take_left] at this;exact this
  have h2:s8 I w (us.drop r.length) rows.flatten:=by
   have:=h.drop r.length;rw[List.drop_left] at this;exact this
  obtain⟨n,e1,e2⟩:=b6w h1 hc;obtain⟨ns,e3,e4⟩:=a8x h2 ht;exact⟨n::ns,by rw[<-c3D r.length us,e1,e3];rfl,by rw[e2,e4];rfl⟩
theorem a6L:∀(ns:List Int) (s:ByteArray),ns.foldl (λr n=>r.push (UInt8.ofNat n.toNat)) s=⟨⟨s.data.toList++ns.map (λn=>UInt8.ofNat n.toNat)⟩⟩
 | [],s=>by simp
 | n::ns,s=>by
  rw[c4q,a6L ns]
  simp[ByteArray.push]
theorem a5u {t:Nat} (h:a5k t=true):∃e,(ty t).elem=some e/\c8 e=true/\(ty e).kind=.int .u8:=by
 unfold a5k at h
 split at h
 ·rename_i e he;rw[c2B] at h;obtain⟨h1,h2⟩:=h
  split at h2
  ·rename_i k hk;obtain rfl:=a5r h2;exact⟨e,he,h1,hk⟩
  ·cases h2
 ·cases h
theorem a8y {t u:Nat} (h:a5l t u=true) (h1:a4t (ty t).kind=true) (h2:(ty u).kind=.str):a5k t=true:=by
 unfold a5l at h;rw[h1,h2,c2B] at h
 simpa [a1O,b0z] using h.1
theorem b4X {t u:Nat} (h:a5l t u=true) (h1:b0z (ty t).kind=true) (h2:(ty u).kind=.slice):a5k u=true:=by
 unfold a5l at h;rw[h1,h2,c2B] at h
 simpa [a1O,a4t] using h.2
theorem b8x (h:RelI I0 X w0 I g s a w) {K:V->Prop} {t0 t:Nat} (ht0:c8 t0=true) (ht:c8 t=true) (hcv:a5l t0 t=true) {u:Value} {x:V} (hu:AtV I w g u x) (hK:a5O a7 K (ty t0).kind (ty t).kind x):Yld I0 X w0 g s a w (convert t0 t u) K:=by
 have h0:∃d,Tryd.prog.underlying t0=some d:=by
  have:=(a39 t0 ht0).agg;cases hd:Tryd.prog.underlying t0 with
  | none=>rw[hd] at this;cases this
  | some d=>exact⟨d,rfl⟩
 obtain⟨d0,hd0⟩:=h0;unfold a5O at hK
 split at hK <;> try exact hK.elim
 ·rename_i k hkind;unfold b3o at hK
  split at hK <;> try exact hK.elim
  obtain rfl:=hu.sc;exact yld h (by simp[convert,run_underlying hd0,run_underlying (a65 ht hkind),Conv.intToInt];rfl) (ati _ _) hK
 ·rename_i hkind;unfold b3p at hK
  split at hK <;> try exact hK.elim
  ·obtain rfl:=hu.sc;exact yld h (by simp[convert,run_underlying hd0,run_underlying (a3Q ht hkind)]) (ats _) hK
  ·rename_i sz rows
   split at hK <;> try exact hK.elim
   rename_i hsl;obtain⟨e,he,hke,hkk⟩:=a5u (a8y hcv hsl hkind);unfold b9Q at hK
   split at hK <;> try exact hK.elim
   rename_i b hb;replace hb:a9q rows=some b:=hb;unfold a9q at hb
   split at hb <;> try cases hb
   rename_i l hl;cases hu with
   | d hd =>
    obtain⟨A,cap,rfl,hcap,hrows⟩:=hd.slice
    have key:(Conv.bytesToString (.slice A rows.length cap)).run Tryd.prog w=.ok (.string ⟨⟨l⟩⟩) w:=by
     rcases hrows with rfl|⟨b,off,us,rfl,hI,hr,hlen,hcell,hat⟩
     ·have hl:l=[]:=(Option.some.inj hl).symm;subst hl;cases A with
      | none=>rfl
      | some p =>
       have h1:=run_bytesToString (P:=Tryd.prog) w p 0 cap [] (run_loadCells_list (P:=Tryd.prog) w p [] (λj v hv=>by simp at hv));rw[a6L] at h1;exact h1
     ·obtain⟨ns,e1,e2⟩:=a8x hat hl
      have hl1:us.length=rows.length:=by
       rw[hlen]
       have:∀ {rows:List (List D)} {l:List UInt8},a5g rows=some l->∀r∈rows,r.length=1:=by
        intro rows
        induction rows with
        | nil=>intro l _ r hr;cases hr
        | cons r0 rows ih =>
         intro l hb r hr;rw[a5g] at hb
         split at hb <;> try cases hb
         rename_i c hc
         split at hb <;> try cases hb
         rename_i t ht
         rcases c2C.1 hr with rfl|hr
         ·unfold b3n at hc
          split at hc
          ·rfl
          ·cases hc
         ·exact ih ht r hr
       cases rows with
       | nil=>simp
       | cons r rows=>rw[<-hr r (c27 ..),this hl r (c27 ..),Nat.mul_one]
      have h1:=run_bytesToString (P:=Tryd.prog) w ⟨b,off,none⟩ rows.length cap ns (by rw[<-hl1,<-e1];exact run_loadCells_list (P:=Tryd.prog) w ⟨b,off,none⟩ us (λj v hv=>by rw[Addr.add_lit];exact hcell j v hv));rw[a6L] at h1;rw[h1,e2];rfl
    exact yld h (by rw[run_convert_bytes_string w t0 t e A rows.length cap (E4 ht0 he) (a65 hke hkk) (a3Q ht hkind)];exact key) (ats _) hK
  ·split at hK <;> try exact hK.elim
   rename_i hsl;obtain⟨e,he,hke,hkk⟩:=a5u (a8y hcv hsl hkind);rw[hu.unem];exact yld h (by rw[run_convert_bytes_string w t0 t e none 0 0 (E4 ht0 he) (a65 hke hkk) (a3Q ht hkind)];rfl) (ats _) hK
 ·rename_i hkind;unfold b3q at hK
  split at hK <;> try exact hK.elim
  rename_i b
  split at hK <;> try exact hK.elim
  rename_i hst;obtain⟨e,he,hke,hkk⟩:=a5u (b4X hcv hst hkind);obtain rfl:=hu.sc;have hrun:=Lib.run_convert_string_bytes (P:=Tryd.prog) w t0 t e b hd0 (E4 ht he) (a65 hke hkk);have hb:Below w.heap.size w (Lib.bytesWorld w e b):=⟨rfl,rfl,rfl,by rw[Lib.bytesWorld_size];omega,λk hk=>Lib.bytesWorld_at_old w e b k hk⟩;have hk:n7 I w (Lib.bytesWorld w e b):=λb k hbk i _=>hb.cell (p:=⟨b,i,none⟩) (h.lt b k hbk).1
  have h4:=h.grow hb (I':=λb k=>I b k\/b=w.heap.size) (λ_ _ h=>.inl h) (λb k hk=>by
   rcases hk with hk|rfl
   ·exact .inl hk
   ·exact .inr ⟨c2A _,by rw[Lib.bytesWorld_size];omega⟩)
  have hlen:(a8q b).length=b.size:=by unfold a8q;rw[c3f];rfl
  refine⟨_,_,_,_,hrun,h4,.d ?_,hK⟩;rw[show b.size=(a8q b).length from hlen.symm];refine .sl _ 0 _ _ (a8q b) (b.data.toList.map λc=>.int .u8 (c.toNat:Int)) (by rw[hlen];exact grownCap_ge ..) ⟨_,c2A _,.inr rfl⟩ (λr hr=>?_) ?_ (λi u hu=>?_) (λi u d hu hd=>?_)
  ·unfold a8q at hr;obtain⟨c,_,rfl⟩:=c3k.1 hr;rfl
  ·rw[c3f,hlen,Nat.mul_one];rfl
  ·rw[c3v];have hi:i<b.size:=by have:=(c25.1 hu).1;rw[c3f] at this;exact this
   rw[Lib.bytesWorld_cell w e b i hi];rw[c3i] at hu;rw[c2V];cases hg:b.data.toList[i]? with
   | none=>rw[hg] at hu;cases hu
   | some c=>rw[hg] at hu;have hu:=Option.some.inj hu;rw[<-hu];rfl
  ·have key:∀l:List UInt8,∀i:Nat,∀u d,(l.map λc=>Value.int .u8 (c.toNat:Int))[i]?=some u->(l.map λc=>[D.sc (.int .u8 (c.toNat:Int))]).flatten[i]?=some d->AtD (λb k=>I b k\/b=w.heap.size) (Lib.bytesWorld w e b) u d:=by
    intro l
    induction l with
    | nil=>intro i u d hu;simp at hu
    | cons c l ih =>
     intro i u d hu hd;cases i with
     | zero=>simp at hu hd;subst hu;subst hd;exact .sc _ rfl
     | succ i=>exact ih i u d (by simpa using hu) (by simpa using hd)
   exact key _ i u d hu hd
theorem b2i (h:RelI I0 X w0 I g s a w) {K:V->Prop} {i:Nat} {u:Value} {x:V} (hu:AtV I w g u x) (hK:a21 K i x):Yld I0 X w0 g s a w (Instr.extract u i) K:=by
 unfold a21 at hK
 split at hK <;> try exact hK.elim
 rename_i vs
 split at hK <;> try exact hK.elim
 rename_i v hv;have hi:=a13 hv;obtain⟨us,rfl,h1⟩:=hu.untu;have hlt:i<us.length:=by rw[h1.1];exact(c25.1 hi).1
 refine yld h (v:=us[i]) ?_ (h1.2 i _ _ (c28 hlt) hi) hK
 simp[Instr.extract,hlt]
theorem c0b (h:RelI I0 X w0 I g s a w) {K:V->Prop} {t ty':Nat} (ht:c8 t=true) {u:Value} {x:V} (hu:AtV I w g u x) (hK:lenV a7 s.o K (ty t).kind x):Yld I0 X w0 g s a w (Builtin.len_ #[t] ty' #[u]) K:=by
 have hsl:(ty t).kind=.slice->∃e,Tryd.prog.underlying t=some (.slice e):=λhk=>by
  have h2:=(a39 t ht).under;unfold a0P at h2;rw[hk] at h2;obtain⟨h3,h4⟩:=h2;obtain⟨e,he⟩:=c40.1 h4;rw[he] at h3;exact⟨e,h3⟩
 have key:∀A n cap,(∃e,Tryd.prog.underlying t=some (.slice e))->(Builtin.len_ #[t] ty' #[.slice A n cap]).run Tryd.prog w=.ok (.int .i64 n) w:=λA n cap ⟨e,he⟩=>by
  simp[Builtin.len_,run_underlying he,goInt]
 unfold lenV at hK
 split at hK <;> try exact hK.elim
 rotate_left
 ·rename_i hk;unfold b4M at hK
  split at hK <;> try exact hK.elim
  rename_i b;obtain rfl:=hu.sc;exact yld h (by simp[Builtin.len_,run_underlying (a3Q ht hk),goInt];rfl) (ati _ _) hK
 rename_i hk;unfold b4L at hK
 split at hK <;> try exact hK.elim
 ·rename_i sz rows;cases hu with
  | d h1 =>
   obtain⟨A,cap,rfl,-⟩:=h1.slice;exact yld h (key _ _ _ (hsl hk)) (ati _ _) hK
 ·cases hu;exact yld h (key _ _ _ (hsl hk)) (ati _ _) hK
 ·rename_i k
  split at hK <;> try exact hK.elim
  rename_i z e rows ho;obtain⟨us,h1,_⟩:=h.obj k _ (j1 ho (by simp));obtain⟨A,cap,hg⟩:=L8 h1;cases hu with
  | own k A' n cap' hg' =>
   rw[a27 h1,hg] at hg';injection hg' with e1 e2 e3;subst e1;subst e2;subst e3;exact yld h (key _ _ _ (hsl hk)) (ati _ _) hK
 ·obtain⟨b,cap,hg,rfl,hle⟩:=hu.unbs;exact yld h (key _ _ _ (hsl hk)) (ati _ _) hK
theorem b8y (h:RelI I0 X w0 I g s a w) {K:V->Prop} {t:Nat} (ht:c8 t=true) (htv:(ty t).kind=.array->∀e,(ty t).val=some e->c8 e=true) {u v:Value} {x i:V} (hu:AtV I w g u x) (hv:AtV I w g v i) (hK:a2z a7 K t x i):Yld I0 X w0 g s a w (Instr.index t u v) K:=by
 unfold a2z at hK
 split at hK <;> try exact hK.elim
 ·rename_i cs k n
  split at hK <;> try exact hK.elim
  rename_i hkd
  split at hK <;> try exact hK.elim
  rename_i e he
  split at hK <;> try exact hK.elim
  rename_i j hj
  split at hK <;> try exact hK.elim
  rename_i l hl
  split at hK <;> try exact hK.elim
  rename_i y hy;have hun:=a66 ht hkd he;have hke:=htv hkd e he;obtain rfl:=hv.sc;obtain⟨us,rfl,h7⟩:=hu.unag
  have hn:(0<=n/\n<((ty t).alen:Int))/\n.toNat=j:=by
   simp only[a7] at hj
   split at hj
   ·rename_i h1;injection hj with hj;exact⟨h1,hj⟩
   ·cases hj
  obtain⟨hn,rfl⟩:=hn;rw[a0n] at hl;obtain⟨e1,he1⟩:=a0o hl;have hul:f9 I w g ((us.drop (n.toNat * (ty e).sz)).take (ty e).sz) l:=by rw[e1];exact(h7.drop _).take _
  obtain⟨hx,hone⟩:=a9x hul hy;refine yld h ?_ hx hK;simp only[Instr.index,asIntOf,Sem.run_bind,Sem.run_pure,run_underlying hun,Result.andThen_ok,c2E hn,part,H8 hke,a9w hke];cases hag:(ty e).agg with
  | true =>
   have hsz:=H8 hke w
   simp[hsz]
  | false =>
   have hlen:=hone hag;simp only[c4g,c4Y]
   have hlt:n.toNat * (ty e).sz<us.length:=by
    rw[c3h,c3K] at hlen;omega
   have:us.toArray[n.toNat * (ty e).sz]?=some (((us.drop (n.toNat * (ty e).sz)).take (ty e).sz).getD 0 undef):=by
    simp only[c3W,c2V,c3g,c3e,c3I];have hsz:0<(ty e).sz:=by rw[c3h] at hlen;omega
    rw[c2E hsz,c28 hlt];rfl
   rw[this];rfl
 rename_i b k n
 split at hK <;> try exact hK.elim
 rename_i hk
 split at hK <;> try exact hK.elim
 rename_i c hc;obtain rfl:=hu.sc;obtain rfl:=hv.sc
 have hs:(if 0<=n then b[n.toNat]? else none).map (λc=>(c.toNat:Int))=some c:=by
  simp only[a7] at hc
  split at hc
  ·rw[c2E (by assumption)];exact hc
  ·cases hc
 cases hx:(if 0<=n then b[n.toNat]? else none) with
 | none=>rw[hx] at hs;cases hs
 | some y =>
  rw[hx] at hs;injection hs with hs;subst hs;exact yld h (by simp[Instr.index,asIntOf,run_underlying (a3Q ht hk),hx]) (ati _ _) hK
theorem a48:∀(vs:List Value) (j:Nat) (cs:Array Value) (off:Nat),off+j+vs.length<=cs.size ->
  ((vs.zipIdx j).foldl (λcs (c,j)=>cs.setIfInBounds (off+j) c) cs).toList=cs.toList.take (off+j)++vs++cs.toList.drop (off+j+vs.length)
 | [],j,cs,off,_=>by simp
 | v::vs,j,cs,off,hl=>by
  have hl':off+j<cs.size:=by simp at hl;omega
  rw[List.zipIdx_cons,c4q,a48 vs (j+1) _ off (by simp at hl ⊢;omega)];simp only[Array.toList_setIfInBounds,<-c3J,c2D];have hlt:off+j<cs.toList.length:=by simpa using hl'
  rw[List.set_eq_take_append_cons_drop,c2E hlt];have h1:(cs.toList.take (off+j)).length=off+j:=by rw[c3h];omega
  have h2:(cs.toList.take (off+j)++v::cs.toList.drop (off+j+1)).take (off+j+1)=cs.toList.take (off+j)++[v]:=by
   rw[List.take_append,h1,c3r (by omega),show off+j+1 - (off+j)=1 by omega]
   simp
  have h3:(cs.toList.take (off+j)++v::cs.toList.drop (off+j+1)).drop (off+j+1+vs.length)=cs.toList.drop (off+j+(vs.length+1)):=by
   rw[List.drop_append,h1,c4A (by omega),show off+j+1+vs.length - (off+j)=vs.length+1 by omega,c3t,List.drop_succ_cons,List.drop_drop]
   congr 1
   omega
  rw[h2,h3]
  simp[c3J]
theorem a49 (h:RelI I0 X w0 I g s a w) {place:List (Nat×Nat)}:∀ {ps:List (Nat×Operand)} {l r:List V} {us:List Value},f9 I w g us l->T4 s.get place ps l=some r ->
  ∃us',Instr.fill (λi=>place[i]?) us.toArray (ps.map λp=>(p.1,a.eval p.2))=some us'.toArray/\f9 I w g us' r
 | [],l,r,us,hu,hf=>by
  rw[T4] at hf;injection hf with hf;subst hf;exact⟨us,rfl,hu⟩
 | (i,x)::ps,l,r,us,hu,hf=>by
  rw[T4] at hf
  split at hf <;> try cases hf
  rename_i off sz hp
  split at hf <;> try cases hf
  rename_i cs hcs
  split at hf <;> try cases hf
  rename_i hsz
  split at hf <;> try cases hf
  rename_i l' hl';rw[w8,x7] at hsz;obtain⟨vs,hv1,hv2,hv3⟩:=a45 (h.get x) hcs;obtain⟨e,hle⟩:=Y3 hl';have hlen:off+vs.length<=us.length:=by rw[hv2.1,hu.1];exact hle
  obtain⟨us',h1,h2⟩:=a49 h (hu.splice hv2 hl') hf;refine⟨us',?_,h2⟩;rw[c2Y,Instr.fill];simp only[a13 hp];have hsize:(a.eval x).cells.size=sz:=by rw[hv1];simp[hv2.1,hsz]
  rw[c2H (by
   rw[hsize];have:vs.length=sz:=by rw[hv2.1,hsz]
   simp
   omega)]
  rw[<-h1]
  congr 1
  apply c4j
  have:=a48 vs 0 us.toArray off (by simpa using hlen);simp only[c3I] at this;rw[hv1]
  simpa using this
theorem a5S {α:Type} (o:α->Nat) (sz:α->Option Nat):∀(l:List α) (m:List (Nat×Nat)),l.map (λf=>(o f,sz f))=m.map (λx=>(x.1,some x.2))->l.mapM (λf=>(sz f).map λi=>(o f,i))=some m
 | [],[],_=>rfl
 | [],_::_,h=>by cases h
 | _::_,[],h=>by cases h
 | f::l,(y1,y2)::m,h=>by
  rw[c2Y,c2Y] at h;injection h with h1 h2;injection h1 with h1 h3;simp only at h3 h1;rw[c4C,a5S o sz l m h2,h3,h1];rfl
theorem a6M {sz:Nat}:∀ {n off i:Nat} {p:Nat×Nat},(places sz n off)[i]?=some p->p=(off+i * sz,sz)
 | 0,off,i,p,h=>by simp[places] at h
 | n+1,off,0,p,h=>by simp[places] at h;simp[<-h]
 | n+1,off,i+1,p,h=>by
  have:=a6M (n:=n) (off:=off+sz) (i:=i) (p:=p) (by simpa [places] using h);rw[this,c3N]
  congr 1
  omega
theorem a8z {place place':Nat->Option (Nat×Nat)} (hp:∀i p,place i=some p->place' i=some p):∀ {ps:List (Nat×Value)} {l r:Array Value},Instr.fill place l ps=some r->Instr.fill place' l ps=some r
 | [],l,r,h=>h
 | (i,v)::ps,l,r,h=>by
  rw[Instr.fill] at h ⊢
  split at h
  ·cases h
  ·rename_i off size hpi;rw[hp _ _ hpi];simp only
   split at h
   ·cases h
   ·rename_i hc;rw[c2H hc];exact a8z hp h
theorem b6x (h:RelI I0 X w0 I g s a w) {K:V->Prop} {t:Nat} (ht:c8 t=true) (htv:(ty t).kind=.array->∀e,(ty t).val=some e->c8 e=true) (ps:Array (Nat×Operand)) (hK:a1R s.get K t ps.toList):Yld I0 X w0 g s a w (Instr.build t (ps.map λp=>(p.1,a.eval p.2))) K:=by
 unfold a1R at hK
 split at hK <;> try exact hK.elim
 ·rename_i hk
  split at hK <;> try exact hK.elim
  rename_i l hl;obtain⟨us',h1,h2⟩:=a49 h (H0 (ty t).zero) hl;refine yld h ?_ (a00 h2) hK;refine run_build w t _ _ ?_;obtain⟨x,z,hi,hs,hz,hc,_⟩:=a0C ht;obtain⟨fs,hu,hf1,hf2⟩:=a5i ht hk
  have hpl:fs.toList.mapM (λf=>(Tryd.prog.info? f.type).map λi=>(f.offset,i.size))=some (ty t).flds:=by
   have hm:=a5S _ _ _ _ hf1;simp only[Option.map_map] at hm;exact hm
  simp only[Program.built,hi,hu,hz,hpl,hc];rw[c4m]
  simpa using h1
 ·rename_i hk
  split at hK <;> try exact hK.elim
  rename_i e he
  split at hK <;> try exact hK.elim
  rename_i l hl;obtain⟨us',h1,h2⟩:=a49 h (H0 (ty t).zero) hl;refine yld h ?_ (a00 h2) hK;obtain⟨z,hz,hzc⟩:=a4x ht w;have hun:=a66 ht hk he
  have hpl:∀i p,(places (ty e).sz (ty t).alen 0)[i]?=some p->p=(i * (ty e).sz,(ty e).sz):=λi p hp=>by
   have:=a6M hp
   simpa using this
  have h3:=a8z (place':=λi=>some (i * (ty e).sz,(ty e).sz)) (λi p hp=>by rw[hpl i p hp]) h1;rw[<-hzc] at h3;simp only[Instr.build,Sem.run_bind,hz,Result.andThen_ok,run_underlying hun,H8 (htv hk e he),c4m];rw[h3];rfl
theorem b6y (h:RelI I0 X w0 I g s a w) {K:V->Prop} {mx:Bool} {ts:Array TypeId} {ty':Nat} {us:List Value} {xs:List V} (hu:f9 I w g us xs) (hK:a9s a7 K mx xs):Yld I0 X w0 g s a w (if mx=true then Builtin.max_ ts ty' us.toArray else Builtin.min_ ts ty' us.toArray) K:=by
 unfold a9s at hK
 split at hK <;> try exact hK.elim
 rename_i k m k' n;obtain⟨u,us,rfl,h1,h2⟩:=hu.uncons;obtain⟨v,us,rfl,h3,h4⟩:=h2.uncons;rw[h4.unnil];obtain rfl:=h1.sc;obtain rfl:=h3.sc
 split at hK <;> try exact hK.elim
 cases mx with
 | true =>
  refine yld h ?_ (ati k _) hK;simp only[Builtin.max_,c4I,List.foldlM,Builtin.max2,a7]
  by_cases hlt:m<n
  ·simp[hlt]
  ·simp[hlt]
 | false =>
  refine yld h ?_ (ati k _) hK;simp only[Builtin.min_,c4g,c4Y,List.foldlM,Builtin.min2,a7]
  by_cases hlt:n<m
  ·simp[hlt]
  ·simp[hlt]
theorem c1g (h:RelI I0 X w0 I g s a w) {K:V->Prop} {v:Value} {x:V} (hv:AtV I w g v x) (hK:nnV K x):K x/\(∀f,v≠.func (.method f) #[] #[])/\((∃a,v=.pointer (some a))\/∃f cs,v=.func (.func f) #[] cs):=by
 unfold nnV at hK
 split at hK <;> try exact hK.elim
 ·obtain⟨b,_,rfl⟩:=hv.unptr;exact⟨hK,by simp,.inl ⟨_,rfl⟩⟩
 ·cases hv;exact⟨hK,by simp,.inr ⟨_,_,rfl⟩⟩
 ·cases hv;exact⟨hK,by simp,.inl ⟨_,rfl⟩⟩
 ·cases hv;exact⟨hK,by simp,.inl ⟨_,rfl⟩⟩
end
end
section
section
variable {I0:Nat->Nat->Prop} {X:Nat->Prop} {w0:W0} {I:Nat->Nat->Prop} {g:Nat->Value} {s:S} {a:Act} {w:World}
theorem a15 {sz:Nat}:∀ {n:Nat} {l:List D} {rows:List (List D)},a0R sz n l=some rows->rows.flatten=l/\rows.length=n/\∀r∈rows,r.length=sz
 | 0,[],rows,h=>by rw[a0R] at h;injection h with h;subst h;simp
 | 0,_::_,rows,h=>by rw[a0R] at h;cases h
 | n+1,l,rows,h=>by
  rw[a0R] at h
  split at h <;> try cases h
  rename_i r hr
  split at h <;> try cases h
  rename_i rs hrs;obtain⟨h1,h2,h3⟩:=a15 hrs;obtain⟨h4,h5⟩:=a0o hr;rw[a0n] at h1;refine⟨?_,by simp[h2],λx hx=>?_⟩
  ·rw[c3x,h1,h4];simp
  ·rcases c2C.1 hx with rfl|hx
   ·exact h5
   ·exact h3 x hx
theorem a6N {us:List Value} {z:List V} (hz:f9 I w g us z):∀(n:Nat) {vs:List Value} {acc:List V},f9 I w g vs acc->f9 I w g ((List.replicate n us).flatten++vs) (a2x z n acc)
 | 0,vs,acc,h=>by simpa [a2x] using h
 | n+1,vs,acc,h=>by
  rw[a2x];have:=a6N hz n (hz.append h);rw[List.replicate_succ',c4k]
  simpa using this
theorem a3T (z:Array Value) (n:Nat):((Array.range (n * z.size)).map λi=>z[i % z.size]!).toList=(List.replicate n z.toList).flatten:=by
 apply c4b
 intro i;have hrl:∀r∈List.replicate n z.toList,r.length=z.size:=λr hr=>by rw[(List.mem_replicate.1 hr).2];simp
 by_cases hi:i<n * z.size
 ·have hz:0<z.size:=by
   rcases c4U z.size with h|h
   ·rw[h,Nat.mul_zero] at hi;omega
   ·exact h
  have hq:i / z.size<n:=Nat.div_lt_of_lt_mul (by rw[Nat.mul_comm];exact hi);have hm:i % z.size<z.size:=Nat.mod_lt _ hz;have e:=K6 hrl (i:=i / z.size) (j:=i % z.size) (r:=z.toList) (by rw[c3M,c2E hq]) hm;rw[Nat.div_add_mod' i z.size] at e;rw[e]
  simp[hi,hm,c3O]
 ·rw[c3p (by simp;omega),c3p (by rw[a0l hrl];simp;omega)]
theorem a2C (h:RelI I0 X w0 I g s a w) {K:V->Prop} {t n:Nat} (ht:c8 t=true) (hte:∀e,(ty t).elem=some e->c8 e=true/\n * (ty e).sz<=16777216) (ps:Array (Nat×Operand)) (hK:B2 s.get s.o K t n ps.toList) :
  ∃e rows us,(ty t).elem=some e/\c8 e=true/\(Instr.buildSlice t n (ps.map λp=>(p.1,a.eval p.2))).run Tryd.prog w=.ok (.slice (some ⟨w.heap.size,0,none⟩) n n) (w.alloc (.cells us.toArray e))/\us.length=n * (ty e).sz/\rows.length=n/\(∀r∈rows,r.length=(ty e).sz)/\s8 I w us rows.flatten/\K (.d (.sl (ty e).sz rows)):=by
 unfold B2 at hK
 split at hK <;> try exact hK.elim
 rename_i e he
 split at hK <;> try exact hK.elim
 rename_i n
 split at hK <;> try exact hK.elim
 rename_i l hl
 split at hK <;> try exact hK.elim
 rename_i ds hds
 split at hK <;> try exact hK.elim
 rename_i rows hrows;obtain⟨hke,hsz⟩:=hte e he;have hun:=E4 ht he;obtain⟨z,hz,hzc⟩:=a4x hke w;obtain⟨_,_,_,_,_,_,hzl,_⟩:=a0C hke;have hz0:=a6N (I:=I) (w:=w) (g:=g) (H0 (ty e).zero) (n+1) (.nil I w g);rw[c3b] at hz0
 have hpl:∀(m off i:Nat) (p:Nat×Nat),(places (ty e).sz m off)[i]?=some p->p=(off+i * (ty e).sz,(ty e).sz):=by
  intro m
  induction m with
  | zero=>intro off i p hp;simp[places] at hp
  | succ m ih =>
   intro off i p hp;cases i with
   | zero=>simp[places] at hp;rw[<-hp];simp
   | succ i =>
    have:=ih (off+(ty e).sz) i p (by simpa [places] using hp);rw[this,c3N];exact Prod.ext (by simp only;omega) rfl
 obtain⟨us',h1,h2⟩:=a49 h hz0 hl
 have hfill:∀(ps:List (Nat×Value)) (cs r:Array Value),Instr.fill (λi=>(places (ty e).sz (n+1) 0)[i]?) cs ps=some r->Instr.fill (λi=>some (i * (ty e).sz,(ty e).sz)) cs ps=some r:=by
  intro ps
  induction ps with
  | nil=>intro cs r hr;exact hr
  | cons p ps ih =>
   intro cs r hr;obtain⟨i,v⟩:=p;rw[Instr.fill] at hr ⊢;cases hp:(places (ty e).sz (n+1) 0)[i]? with
   | none=>rw[hp] at hr;cases hr
   | some q =>
    rw[hp] at hr;have:=hpl _ _ _ _ hp;rw[c3v] at this;subst this;simp only at hr ⊢
    split at hr
    ·cases hr
    ·rename_i hc;rw[c2H hc];exact ih _ _ hr
 have h3:=hfill _ _ _ h1
 have hcell:((Array.range ((n+1) * (ty e).sz)).map λi=>((if (n+1) * (ty e).sz=0 then #[] else z.cells):Array Value)[i % ((if (n+1) * (ty e).sz=0 then #[] else z.cells):Array Value).size]!)=((List.replicate (n+1) (ty e).zero).flatten).toArray:=by
  apply c4j
  by_cases hs0:(n+1) * (ty e).sz=0
  ·have:(ty e).sz=0:=by rcases Nat.mul_eq_zero.1 hs0 with h|h <;> omega
   rw[this] at hzl;have hnil:(ty e).zero=[]:=c2M hzl;rw[hs0,hnil]
   simp
  ·rw[c2H hs0,hzc];have:=a3T (ty e).zero.toArray (n+1);simp only[c4t,hzl] at this
   simpa [hzl] using this
 have hdat:=a3m h h2 hds;obtain⟨hfl,hrl,hr1⟩:=a15 hrows
 have hrun:(Instr.buildSlice t (n+1) (ps.map λp=>(p.1,a.eval p.2))).run Tryd.prog w=.ok (.slice (some ⟨w.heap.size,0,none⟩) (n+1) (n+1)) (w.alloc (.cells us'.toArray e)):=by
  have hsz':(n+1) * (ty e).sz<=16777216:=hsz;have hbig:¬(n+1) * (ty e).sz>16777216:=by omega
  have hsize:=H8 hke w
  by_cases hs0:(n+1) * (ty e).sz=0
  ·rw[c2E hs0] at hcell;simp only[Instr.buildSlice,Sem.run_bind,run_underlying hun,Result.andThen_ok,hsize,Sem.run_ite,Sem.run_pure];rw[c2H (by omega),c2E hs0];simp only[Result.andThen_ok,hcell,c4m,h3];rfl
  ·rw[c2H hs0] at hcell;simp only[Instr.buildSlice,Sem.run_bind,run_underlying hun,Result.andThen_ok,hsize,Sem.run_ite,Sem.run_pure];rw[c2H (by omega),c2H hs0];simp only[Sem.run_bind,hz,Result.andThen_ok,Sem.run_pure,hcell,c4m,h3];rfl
 exact⟨e,rows,us',he,hke,hrun,by rw[hdat.1,<-hfl,a0l hr1,hrl],hrl,hr1,by rw[hfl];exact hdat,hK⟩
theorem a8j (h:RelI I0 X w0 I g s a w) {K:V->Prop} {t n:Nat} (ht:c8 t=true) (hte:∀e,(ty t).elem=some e->c8 e=true/\n * (ty e).sz<=16777216) (ps:Array (Nat×Operand)) (hK:B2 s.get s.o K t n ps.toList) :
  Yld I0 X w0 g s a w (Instr.buildSlice t n (ps.map λp=>(p.1,a.eval p.2))) K:=by
 obtain⟨e,rows,us',he,hke,hrun,hl,hrl,hr1,hdat,hK⟩:=a2C h ht hte ps hK;have hb:Below w.heap.size w (w.alloc (.cells us'.toArray e)):=(Below.refl _ _).alloc (c2A _) _;have hk:n7 I w (w.alloc (.cells us'.toArray e)):=λb k hbk i _=>hb.cell (p:=⟨b,i,none⟩) (h.lt b k hbk).1
 have h4:=h.grow hb (I':=λb k=>I b k\/b=w.heap.size) (λ_ _ h=>.inl h) (λb k hk=>by
  rcases hk with hk|rfl
  ·exact .inl hk
  ·exact .inr ⟨c2A _,by simp⟩)
 refine⟨_,_,_,_,hrun,h4,.d ?_,hK⟩;rw[<-hrl];refine .sl _ 0 _ _ rows us' (c2A _) ⟨_,c2A _,.inr rfl⟩ hr1 ?_ (λi u hu=>?_) (λi u d hu hd=>?_)
 ·rw[hl,hrl]
 ·rw[c3v,World.cell?_alloc_new]
  simpa using hu
 ·exact(hdat.2 i u d hu hd).mono (λ_ _ h=>.inl h) hk
theorem a6O (h:RelI I0 X w0 I g s a w) {n l:Int} {lo:Option Operand} (hb:a4u n (P3 s.get lo)=some l):(lo.map a.eval=none/\l=n)\/∃k,lo.map a.eval=some (.int k l):=by
 cases lo with
 | none =>
  simp only[P3,a4u,Option.some.injEq] at hb;exact .inl ⟨rfl,hb.symm⟩
 | some x =>
  simp only[P3] at hb;have hx:=h.get x;generalize s.get x=y at *;cases y with
  | d z =>
   cases z with
   | sc v =>
    cases v <;> first|(simp[a4u] at hb;done)|skip
    rename_i k m;simp only[a4u,Option.some.injEq] at hb;subst hb;exact .inr ⟨k,by rw[c3F,hx.sc]⟩
   | sl sz rows=>simp[a4u] at hb
  | _=>simp[a4u] at hb
theorem a6P (isSlice:Bool) (len cap:Nat) (lo hi:Option Value) (l h:Int) (hlo:(lo=none/\l=0)\/∃k,lo=some (.int k l)) (hhi:(hi=none/\h=len)\/∃k,hi=some (.int k h)) (h0:0<=l) (h1:l<=h) (h2:h<=cap) :
  (Instr.sliceBounds isSlice len cap lo hi none).run Tryd.prog w=.ok (l.toNat,h.toNat,cap) w:=by
 have e1:((h.toNat:Nat):Int)=h:=Int.toNat_of_nonneg (by omega);have e2:0<=h:=by omega
 rcases hlo with⟨rfl,rfl⟩|⟨k,rfl⟩ <;> rcases hhi with⟨rfl,rfl⟩|⟨k',rfl⟩ <;> simp[Instr.sliceBounds,run_sliceBound, *]
theorem b6z (h:RelI I0 X w0 I g s a w) {K:V->Prop} {t:Nat} (ht:c8 t=true) (hte:∀e,(ty t).elem=some e->c8 e=true) {u:Value} {x:V} {lo hi:Option Operand} (hu:AtV I w g u x) (hK:a2y a7 s.o K t x (P3 s.get lo) (P3 s.get hi)) :
  Yld I0 X w0 g s a w (Instr.sliceAt t u (lo.map a.eval) (hi.map a.eval) none) K:=by
 unfold a2y at hK
 split at hK <;> try exact hK.elim
 rename_i l hl;have hlo:=a6O h hl
 split at hK <;> try exact hK.elim
 ·rename_i hk
  split at hK <;> try exact hK.elim
  rename_i b
  split at hK <;> try exact hK.elim
  rename_i hh hhb;have hhi:=a6O h hhb
  split at hK <;> try exact hK.elim
  rename_i c hc;obtain rfl:=hu.sc;have hun:=a3Q ht hk;simp only[a7] at hc
  split at hc <;> try cases hc
  rename_i hbd;have hbr:=a6P (w:=w) false b.size b.size _ _ l hh hlo hhi hbd.1 hbd.2.1 hbd.2.2;refine yld h ?_ (ats _) hK
  simp[Instr.sliceAt,Instr.slice,run_underlying hun,hbr]
 ·rename_i hk
  split at hK <;> try exact hK.elim
  rename_i e he
  split at hK <;> try exact hK.elim
  rename_i sz rows hr
  split at hK <;> try exact hK.elim
  rename_i hsz
  split at hK <;> try exact hK.elim
  rename_i hh hhb;have hhi:=a6O h hhb
  split at hK <;> try exact hK.elim
  rename_i rs hrs;obtain⟨h1,h1'⟩:=a96 h hu hr;have h2:=b3y hsz h1 h1';obtain⟨A,cap,rfl,hcap,h3⟩:=h2.slice;simp only[a7] at hrs
  split at hrs <;> try cases hrs
  rename_i hbd;have hun:=E4 ht he;have hbr:=a6P (w:=w) true rows.length cap _ _ l hh hlo hhi hbd.1 hbd.2.1 (by omega)
  have hlen:((rows.drop l.toNat).take (hh.toNat - l.toNat)).length=hh.toNat - l.toNat:=by
   rw[c3h,c3K];omega
  refine yld h (v:=sliced A l.toNat hh.toNat cap (ty e).sz) ?_ (.d ?_) hK
  ·simp[Instr.sliceAt,Instr.slice,run_underlying hun,hbr,H8 (hte e he),sliced]
  ·unfold sliced
   by_cases hemp:hh.toNat - l.toNat=0
   ·have:(rows.drop l.toNat).take (hh.toNat - l.toNat)=[]:=by rw[hemp];simp
    rw[this,hemp];exact .nil _ _ _
   ·rcases h3 with rfl|⟨b,off,us,rfl,hI,hrl,hul,hc,hd⟩
    ·simp at hbd;omega
    rw[c2H (by omega)];have hsub:l.toNat * (ty e).sz+(hh.toNat - l.toNat) * (ty e).sz<=rows.length * (ty e).sz:=by rw[<-c46];exact c31 _ (by omega)
    have hflat:((rows.drop l.toNat).take (hh.toNat - l.toNat)).flatten=(rows.flatten.drop (l.toNat * (ty e).sz)).take ((hh.toNat - l.toNat) * (ty e).sz):=by
     have e1:rows=rows.take l.toNat++((rows.drop l.toNat).take (hh.toNat - l.toNat)++(rows.drop l.toNat).drop (hh.toNat - l.toNat)):=by rw[c3D,c3D]
     have f1:(rows.take l.toNat).flatten.length=l.toNat * (ty e).sz:=by
      rw[a0l λr hr=>hrl r (c4w hr),c3h,c4N (by omega)]
     have f2:((rows.drop l.toNat).take (hh.toNat - l.toNat)).flatten.length=(hh.toNat - l.toNat) * (ty e).sz:=by
      rw[a0l λr hr=>hrl r (c4K (c4w hr)),hlen]
     conv=>rhs;rw[e1]
     rw[c4k,c4k,<-f1,List.drop_left,<-f2,List.take_left]
    have hval:AtD I w (.slice (some ⟨b,off+l.toNat * (ty e).sz,none⟩) ((rows.drop l.toNat).take (hh.toNat - l.toNat)).length (cap - l.toNat)) (.sl (ty e).sz ((rows.drop l.toNat).take (hh.toNat - l.toNat))):=by
     refine .sl b _ _ _ _ ((us.drop (l.toNat * (ty e).sz)).take ((hh.toNat - l.toNat) * (ty e).sz)) (by rw[hlen];omega) (hI.down (by rw[hlen];omega)) (λr hr=>hrl r (c4K (c4w hr))) ?_ (λi u hu=>?_) (λi u d hu hdd=>?_)
     ·rw[hlen,c3h,c3K,hul];omega
     ·rw[c3g] at hu
      split at hu
      ·rw[c3e] at hu;rw[c3J];exact hc _ _ hu
      ·cases hu
     ·rw[hflat,c3g] at hdd;rw[c3g] at hu
      split at hu
      ·rename_i hi;rw[c2E hi,c3e] at hdd;rw[c3e] at hu;exact hd.2 _ _ _ hu hdd
      ·cases hu
    rw[hlen] at hval
    simpa [Addr.add_lit] using hval
 
theorem b8z (h:RelI I0 X w0 I g s a w) {K:V->Prop} {c u v:Value} {z x y:V} (hc:AtV I w g c z) (hu:AtV I w g u x) (hv:AtV I w g v y) (hK:b01 K x y z):Yld I0 X w0 g s a w (do pure (if <-asBool c then u else v)) K:=by
 unfold b01 at hK
 split at hK <;> try exact hK.elim
 rename_i b;obtain rfl:=hc.sc;cases b
 ·exact yld h (by simp[asBool]) hv hK
 ·exact yld h (by simp[asBool]) hu hK
end
end
section
section
variable {w:World}
def hit (r:R):List R->List MapEntry->Nat->Option (Nat×Value)
 | k::ks,e::es,i=>match rEq k r with|true=>some (i,e.val)|false=>hit r ks es (i+1)
 | _,_,_=>none
theorem b0D {t:Nat} {d:TypeDesc} {r:R} (hd:Tryd.prog.underlying t=some d):∀ {ks:List R} {es:List MapEntry} (i:Nat),es.map (·.key)=ks.map rVal->(∀k∈ks,KeyOk t r k w)->Instr.findNow d (rVal r) es i=some (hit r ks es i)\/Instr.findNow d (rVal r) es i=none
 | [],[],i,_,_=>.inl rfl
 | [],_::_,i,h,_=>by cases h
 | _::_,[],i,h,_=>by cases h
 | k::ks,e::es,i,h,hk=>by
  rw[c2Y,c2Y] at h;injection h with h1 h2;have h3:=(hk k (c27 ..)).now d hd;have ih:=b0D hd (i+1) h2 λk hm=>hk k (c26 _ hm)
  simp only[Instr.findNow,hit,h1]
  rcases h3 with h3|h3
  ·rw[h3];cases rEq k r with
   | true=>exact .inl rfl
   | false=>exact ih
  ·rw[h3];exact .inr rfl
theorem b0E {t:Nat} {r:R}:∀ {ks:List R} {es:List MapEntry} (i:Nat),es.map (·.key)=ks.map rVal->(∀k∈ks,KeyOk t r k w)->(Instr.findAsking t (rVal r) es i).run Tryd.prog w=.ok (hit r ks es i) w
 | [],[],i,_,_=>rfl
 | [],_::_,i,h,_=>by cases h
 | _::_,[],i,h,_=>by cases h
 | k::ks,e::es,i,h,hk=>by
  rw[c2Y,c2Y] at h;obtain⟨h1,h2⟩:=List.cons.inj h;have ih:=b0E (t:=t) (i+1) h2 λk hm=>hk k (c26 _ hm)
  rw[Instr.findAsking,hit,h1,Sem.run_bind,(hk k (c27 ..)).eq,Result.andThen_ok];cases hr:rEq k r with
  | true=>simp only[c4I,Sem.run_pure]
  | false=>simp only[c4g,c4Y];exact ih
theorem a6Q {t:Nat} (ht:c8 t=true) {r:R} {ks:List R} {es:List MapEntry} (h:es.map (·.key)=ks.map rVal) (hk:∀k∈ks,KeyOk t r k w):(Instr.findKey t (rVal r) es).run Tryd.prog w=.ok (hit r ks es 0) w:=by
 have hag:=(a39 t ht).agg;cases hu:Tryd.prog.underlying t with
 | none=>rw[hu] at hag;cases hag
 | some d =>
  simp only[Instr.findKey,Sem.run_bind,run_underlying hu,Result.andThen_ok]
  rcases b0D hu 0 h hk with h1|h1
  ·rw[h1];rfl
  ·rw[h1];exact b0E 0 h hk
end
section
variable {I0:Nat->Nat->Prop} {X:Nat->Prop} {w0:W0} {I:Nat->Nat->Prop} {g:Nat->Value} {s:S} {a:Act} {w:World}
theorem b2j {kt:Nat} {r q:R}:∀ {l:List MapEntry} {es:List (R×R)} (i:Nat),a9v I w kt l es ->
  (∃j e p,hit r (es.map (·.1)) l i=some (i+j,e.val)/\l[j]?=some e/\es[j]?=some p/\rEq p.1 r=true/\a1u es r=some p.2/\a0y es r q=es.set j (p.1,q))\/(hit r (es.map (·.1)) l i=none/\a1u es r=none/\a0y es r q=es++[(r,q)])
 | [],[],i,_=>.inr ⟨rfl,rfl,rfl⟩
 | [],_::_,i,h=>by have:=h.1;simp at this
 | _::_,[],i,h=>by have:=h.1;simp at this
 | e::l,(k,v)::es,i,h=>by
  have h':a9v I w kt l es:=⟨by have:=h.1;simpa using this,λj e p he hp=>h.2 (j+1) e p (by simpa using he) (by simpa using hp)⟩;simp only[c2Y,hit,a1u,a0y];cases hk:rEq k r with
  | true=>exact .inl ⟨0,e,(k,v),rfl,rfl,rfl,hk,rfl,rfl⟩
  | false =>
   rcases b2j (q:=q) (i+1) h' with⟨j,e',p,h1,h2,h3,h4,h5,h6⟩|⟨h1,h2,h3⟩
   ·exact .inl ⟨j+1,e',p,by rw[h1,c3J,Nat.add_comm 1 j],by simpa using h2,by simpa using h3,h4,h5,by rw[h6];rfl⟩
   ·exact .inr ⟨h1,h2,by rw[h3];rfl⟩
theorem b3z {kt:Nat} {l:List MapEntry} {es:List (R×R)} (h:a9v I w kt l es):l.map (·.key)=(es.map (·.1)).map rVal:=by
 refine c4b λi=>?_
 simp only[c3i]
 rcases c3o i l.length with hi|hi
 ·have hi':i<es.length:=by rw[<-h.1];exact hi
  rw[c28 hi,c28 hi'];obtain⟨h1,_,h3⟩:=h.2 i _ _ (c28 hi) (c28 hi');exact congrArg some (a3p h1 h3)
 ·rw[c3p hi,c3p (by rw[<-h.1];exact hi)];rfl
theorem b0F {kt:Nat} (ht:c8 kt=true) (hf:∀u∈(ty kt).fty,c8 u=true) {r:R} (hr:a2o kt r=true) {l:List MapEntry} {es:List (R×R)} (h:a9v I w kt l es) (w':World):∀k∈es.map (·.1),KeyOk kt r k w':=by
 intro k hk;obtain⟨p,hp,rfl⟩:=c3k.1 hk;obtain⟨i,hi⟩:=c2Z.1 hp;have hlt:i<l.length:=by rw[h.1];exact(c25.1 hi).1
 exact a97 ht hf hr (h.2 i _ _ (c28 hlt) hi).2.2
theorem b30 {e:Nat} (he:c8 e=true) {z:V} (hz:a11 (ty e).agg (A6 (ty e).zero)=some z):∃v,(zeroValue e).run Tryd.prog w=.ok v w/\AtV I w g v z:=by
 obtain⟨v,hv,hc⟩:=a4x he w;refine⟨v,hv,?_⟩;have hag:=(a39 e he).zag;obtain⟨x,z',h1,_,h3,_⟩:=a0C he
 have hv':v=z':=by
  simp only[zeroValue,typeInfo,Sem.run_bind,run_program,Result.andThen_ok,h1,h3,Sem.run_pure] at hv;exact(Result.ok.inj hv).1.symm
 rw[h1] at hag;simp only[c3A,h3,c3F,Option.some.injEq] at hag;subst hv';cases hb:(ty e).agg with
 | true =>
  rw[hb] at hag hz;rw[a11] at hz;injection hz with hz;subst hz;cases v <;> first|cases hag|skip
  rename_i us;simp only[Value.cells] at hc;rw[hc];exact a00 (H0 (ty e).zero)
 | false =>
  rw[hb] at hag hz;have hs:v.cells=#[v]:=by cases v <;> first|rfl|cases hag
  rw[hs] at hc
  have hz0:(ty e).zero=[v]:=by
   have:=congrArg Array.toList hc
   simpa using this.symm
  rw[hz0] at hz;have h4:=H0 (I:=I) (w:=w) (g:=g) [v];rw[A6,A6] at hz h4;rw[a11] at hz;injection hz with hz;subst hz;exact h4.2 0 _ _ rfl rfl
theorem a6R (h:RelI I0 X w0 I g s a w) {K:V->Prop} {ok b:Bool} {v:Value} {x:V} {m:Sem Value} (hv:AtV I w g v x) (hm:m.run Tryd.prog w=.ok (if ok=true then .tuple #[v,.bool b] else v) w) (hK:a9r K ok b x):Yld I0 X w0 g s a w m K:=by
 cases ok with
 | true=>exact yld h hm (a0S (.cons hv (.cons (atb b) (.nil I w g)))) hK
 | false=>exact yld h hm hv hK
theorem b31 (h:RelI I0 X w0 I g s a w) {kt:Nat} {x:V} {u:Value} {r:R} (hu:AtV I w g u x) (hk:b8s s.o kt x=some r):AtR I w u r/\a2o kt r=true:=by
 unfold b8s at hk
 split at hk
 ·rename_i r' hr
  split at hk
  ·rename_i hb;injection hk with hk;subst hk;exact⟨a67 h hu hr,hb⟩
  ·cases hk
 ·cases hk
theorem a80 {t kt e:Nat} (h:a69 t=true) (hk:(ty t).key=some kt) (hv:(ty t).val=some e):c8 kt=true/\c8 e=true/\∀u∈(ty kt).fty,c8 u=true:=by
 unfold a69 at h;rw[hk,hv] at h;simp only[c2B] at h;exact⟨h.1.1,h.1.2,c3a.1 h.2⟩
theorem b80 (h:RelI I0 X w0 I g s a w) {K:V->Prop} {t:Nat} {ok:Bool} (ht:c8 t=true) (hm:a69 t=true) {v u:Value} {x i:V} (hv:AtV I w g v x) (hu:AtV I w g u i) (hK:a5P a7 s.o K t ok x i):Yld I0 X w0 g s a w (Instr.lookup t v u ok) K:=by
 unfold a5P at hK
 split at hK <;> try exact hK.elim
 rename_i hkd
 split at hK <;> try exact hK.elim
 rename_i kt e hkt hve
 split at hK <;> try exact hK.elim
 rename_i r hr;have hun:=b6i ht hkd hkt hve;obtain⟨k1,k2,k3⟩:=a80 hm hkt hve;obtain⟨h1,h2⟩:=b31 h hu hr;obtain rfl:=a3p h1 h2;have hchk:=(a97 k1 k3 h2 h2 (w:=w)).chk
 split at hK <;> try exact hK.elim
 ·rename_i k
  split at hK <;> try exact hK.elim
  rename_i kt' es ho
  split at hK <;> try exact hK.elim
  rename_i he;obtain rfl:=w8.1 he;obtain⟨b,l,c,g1,g2,g3,g4⟩:=h.obj k _ (j1 ho (by simp));obtain⟨b',hb',rfl⟩:=hv.unmp;rw[g1] at hb';injection hb' with hb'
  injection hb' with hb'
  subst hb';have hfind:=a6Q k1 (b3z g3) (b0F k1 k3 h2 g3 w);have hget:a7.mlook es r=a1u es r:=rfl;rw[hget] at hK
  rcases b2j (r:=r) (q:=r) 0 g3 with⟨j,en,p,e1,e2,e3,e4,e5,_⟩|⟨e1,e5,_⟩
  ·rw[e5] at hK;rw[e1] at hfind;obtain⟨_,hval,_⟩:=g3.2 j _ _ e2 e3;refine a6R h (a9z g hval) ?_ hK;cases ok <;> simp[Instr.lookup,run_underlying hun,MapKept.run_getObj_map g2,hchk,hfind,Result.andThen]
  ·rw[e5] at hK;rw[e1] at hfind;simp only[b03] at hK
   split at hK <;> try exact hK.elim
   rename_i z hz;obtain⟨zv,z1,z2⟩:=b30 (I:=I) (g:=g) (w:=w) k2 hz;refine a6R h z2 ?_ hK;cases ok <;> simp[Instr.lookup,run_underlying hun,MapKept.run_getObj_map g2,hchk,hfind,z1,Result.andThen]
 ·have:=hv.sc;subst this;simp only[b03] at hK
  split at hK <;> try exact hK.elim
  rename_i z hz;obtain⟨zv,z1,z2⟩:=b30 (I:=I) (g:=g) (w:=w) k2 hz;refine a6R h z2 ?_ hK;have hfind:=a6Q k1 (w:=w) (r:=r) (ks:=[]) (es:=[]) rfl (by simp);cases ok <;> simp[Instr.lookup,run_underlying hun,hchk,hfind,hit,z1,Result.andThen]
theorem b60 {k:TK} {x y:D} (hx:a0d k x=true) (hy:a0d k y=true) (h:dEq x y=true):x=y:=by
 rcases a47 hx with⟨q,m,hk,rfl⟩|⟨m,hk,rfl⟩|⟨m,hk,rfl⟩ <;> rcases a47 hy with⟨q',n,hk',rfl⟩|⟨n,hk',rfl⟩|⟨n,hk',rfl⟩ <;> rw[hk] at hk' <;> first|cases hk';done|skip
 ·have hk':=TK.int.inj hk';subst hk';rw[dEq,a0X,c3q] at h;rw[h]
 ·rw[dEq,Y6,c3q] at h;obtain⟨⟨x⟩⟩:=m;obtain⟨⟨y⟩⟩:=n;simp only at h;rw[h]
 ·rw[dEq,a01,c3q] at h;rw[h]
theorem b32:∀ {xs ys:List D} {us:List Nat} {fs:List (Nat×Nat)} {n:Nat},N0 us fs n xs=true->N0 us fs n ys=true->b2d xs ys=true->xs=ys
 | [],[],us,fs,n,_,_,_=>rfl
 | [],_::_,us,fs,n,_,_,h=>by cases h
 | _::_,[],us,fs,n,_,_,h=>by cases h
 | x::xs,y::ys,us,fs,n,hx,hy,h=>by
  rw[b2d] at h
  split at h
  ·rename_i h1;unfold N0 at hx
   split at hx
   ·contradiction
   ·rename_i u us off fs' n' d ds e3;obtain⟨e1,e2⟩:=List.cons.inj e3;subst e1;subst e2;rw[N0] at hy
    split at hx
    ·rename_i e;rw[e] at hy;simp only at hy
     split at hx
     ·rename_i h2
      split at hy
      ·rename_i h3;rw[b60 h2 h3 h1,b32 hx hy h]
      ·cases hy
     ·cases hx
    ·cases hx
   ·cases hx
  ·cases h
theorem c0c {t:Nat} {x y:R} (hx:a2o t x=true) (hy:a2o t y=true) (h:rEq x y=true):x=y:=by
 cases x with
 | one x =>
  cases y with
  | one y=>rw[b60 hx hy h]
  | ag ys=>cases h
 | ag xs =>
  cases y with
  | one y=>cases h
  | ag ys =>
   rw[a2o] at hx hy
   split at hx
   ·rename_i hk;rw[hk] at hy;simp only at hy
    split at hx
    ·rename_i hk;rw[hk] at hy;rw[b32 hx hy h]
    ·cases hx
   ·cases hx
theorem RelI.setMap (h:RelI I0 X w0 I g s a w) {k kt b c c':Nat} {es es':List (R×R)} {l l':Array MapEntry} (hk:s.o[k]?=some (.mp kt es)) (hg:g k=.map (some b)) (hb:w.heap[b]?=some (.map l c)) (hI:∀h,¬I b h) (hM:a12 X w0 b) (hes:a9v I w kt l'.toList es') :
  RelI I0 X w0 I g ⟨s.t,s.o.set k (.mp kt es')⟩ a (ChangeMaps.setBlock w b (.map l' c')):=by
 have hblk:M9 (g k) b:=by rw[hg];rfl
 have hlk:A1 s k:=⟨_,hk,by simp⟩;obtain⟨hs1,hs2⟩:=MapKept.heap_set (o':=.map l' c') hb;have hsz:(ChangeMaps.setBlock w b (.map l' c')).heap.size=w.heap.size:=by simp[ChangeMaps.setBlock]
 have hkp:n7 I w (ChangeMaps.setBlock w b (.map l' c')):=λb' h' hi i _=>by
  refine a26 (hs2 b' λe=>?_) i;subst e;exact hI _ hi
 refine⟨h.im,λb' h' hi=>by rw[hsz];exact h.lt b' h' hi,?_,h.kp.trans λb k hbk i hi=>hkp b k (h.im b k hbk) i hi,by simpa using h.lo,h.st,λj o hj=>?_,λi j b' hi hj=>h.dis i j b' (N2 hk (by simp) hi) (N2 hk (by simp) hj),λj hj=>h.out j (by simpa using hj),h.tmp.mono (λ_ _ h=>h) hkp,h.dfr⟩
 ·refine⟨h.fr.os,h.fr.tape,h.fr.output,by rw[hsz];exact h.fr.size,λb' hb' hX=>?_⟩;refine(hs2 b' λe=>?_).trans (h.fr.block b' hb' hX);subst e
  rcases hM with hM|hM
  ·omega
  ·exact hX hM
 ·by_cases e:k=j
  ·subst e;have hlt:k<s.o.length:=(c25.1 hk).1;simp only[c2S hlt] at hj;have hj:=Option.some.inj hj;subst hj;exact⟨b,l',c',hg,hs1,hes.mono (λ_ _ h=>h) hkp,hI,hM⟩
  ·simp only[c2L e] at hj;have ho:=h.obj j o hj
   by_cases hd:o=.dead
   ·subst hd;exact True.intro
   ·refine ho.keep (λ_ _ h=>h) hkp (λb' hb'=>hs2 b' λe'=>?_) λ_ _ _ h=>h
    subst e';exact e (h.dis k j _ hlk ⟨o,hj,hd⟩ hblk hb')
theorem c0d (h:RelI I0 X w0 I g s a w) {K:S->Prop} {t:Nat} (ht:c8 t=true) (hm:a69 t=true) {v u q:Value} {x i y:V} (hv:AtV I w g v x) (hu:AtV I w g u i) (hq:AtV I w g q y) (hK:a9t a7 s K t x i y):∃w' s',(Instr.mapUpdate t v u q).run Tryd.prog w=.ok () w'/\RelI I0 X w0 I g s' a w'/\K s':=by
 unfold a9t at hK
 split at hK <;> try exact hK.elim
 rename_i hkd
 split at hK <;> try exact hK.elim
 rename_i kt k hkt
 split at hK <;> try exact hK.elim
 rename_i r qr kt' es hr hqr ho
 split at hK <;> try exact hK.elim
 rename_i he;obtain rfl:=w8.1 he;obtain⟨b',hb',rfl⟩:=hv.unmp;have hok:=j1 ho (by simp);obtain⟨b,l,c,g1,g2,g3,g4,g5⟩:=h.obj k _ hok;rw[g1] at hb';have hb':=Option.some.inj (Value.map.inj hb');subst hb';have hmo:=hm;unfold a69 at hmo;rw[hkt] at hmo
 split at hmo
 ·rename_i kt0 e hkt0 hve;have hkt0:=Option.some.inj hkt0;subst hkt0;have hun:=b6i ht hkd hkt hve;obtain⟨k1,k2,k3⟩:=a80 hm hkt hve;obtain⟨h1,h2⟩:=b31 h hu hr;obtain rfl:=a3p h1 h2;have hqa:=a67 h hq hqr;have hko:=a97 k1 k3 h2 h2 (w:=w);have hfind:=a6Q k1 (b3z g3) (b0F k1 k3 h2 g3 w);have hput:a7.mput es r qr=a0y es r qr:=rfl;rw[hput,x5] at hK
  rcases b2j (r:=r) (q:=qr) 0 g3 with⟨j,en,p,e1,e2,e3,e4,_,e6⟩|⟨e1,_,e6⟩
  ·rw[e6] at hK;rw[e1,c3v] at hfind;obtain⟨p1,p2,p3⟩:=g3.2 j _ _ e2 e3;have hre:=c0c p3 h2 e4;have hkey:en.key=rVal r:=by rw[a3p p1 p3,hre]
   have hst:(Instr.keyThatStays (rVal r) (rVal r)).run Tryd.prog w=.ok (rVal r) w:=by
    simp only[Instr.keyThatStays,hko.bits,c4I,Sem.run_pure]
   have hlj:l[j]?=some en:=by rw[<-c3w];exact e2
   refine⟨ChangeMaps.setBlock w b (.map (l.modify j λe=>{ e with key:=rVal r,val:=q }) c),_,?_,h.setMap (es':=es.set j (p.1,qr)) hok g1 g2 g4 g5 ⟨by simp[g3.1],λi e2' p' he' hp'=>?_⟩,hK⟩
   ·simp[Instr.mapUpdate,run_underlying hun,MapKept.run_getObj_map g2,hko.chk,hfind,hlj,hkey,hst,MapKept.run_setObj_map _ g2,Result.andThen,ChangeMaps.setBlock]
   ·by_cases hij:j=i
    ·subst hij;have hl1:j<es.length:=(c25.1 e3).1;rw[c2S hl1] at hp';have hp':=Option.some.inj hp';subst hp';rw[c3w,c4s,c2E rfl,hlj] at he';have he':=Option.some.inj he';subst he';refine⟨?_,hqa,p3⟩;show AtR I w (rVal r) p.1;rw[<-hkey];exact p1
    ·rw[c2L hij] at hp';rw[c3w,c4s,c2H hij,<-c3w] at he';exact g3.2 i _ _ he' hp'
  ·rw[e6] at hK;rw[e1] at hfind;refine⟨ChangeMaps.setBlock w b (.map (l.push { key:=rVal r,val:=q,born:=c }) (c+1)),_,?_,h.setMap (es':=es++[(r,qr)]) hok g1 g2 g4 g5 ⟨by simp[g3.1],λi e2' p' he' hp'=>?_⟩,hK⟩
   ·simp[Instr.mapUpdate,run_underlying hun,MapKept.run_getObj_map g2,hko.chk,hfind,MapKept.run_setObj_map _ g2,Result.andThen,ChangeMaps.setBlock]
   ·rw[Array.toList_push] at he'
    rcases c3o i l.toList.length with hi|hi
    ·rw[c2R hi] at he';rw[c2R (by rw[<-g3.1];exact hi)] at hp';exact g3.2 i _ _ he' hp'
    ·rw[c2P hi] at he';rw[c2P (by rw[<-g3.1];exact hi),<-g3.1] at hp';cases hd:i - l.toList.length with
     | zero =>
      rw[hd] at he' hp';have he':=Option.some.inj he';have hp':=Option.some.inj hp';subst he';subst hp';exact⟨h1,hqa,h2⟩
     | succ n=>rw[hd] at he';simp at he'
 ·cases hmo
theorem c1h (h:RelI I0 X w0 I g s a w) {kt:Nat}:∃g',g' s.o.length=.map (some w.heap.size)/\RelI I0 X w0 I g' (s.obj (.mp kt [])) a (w.alloc (.map #[] 0)):=by
 have hb:Below w.heap.size w (w.alloc (.map #[] 0)):=(Below.refl _ _).alloc (c2A _) _;have h2:=h.grow hb (I':=I) (λ_ _ h=>h) (λ_ _ h=>.inl h);refine⟨upd g s.o.length (.map (some w.heap.size)),d9 ..,h2.newObj _ _ ⟨w.heap.size,#[],0,d9 ..,(MapKept.heap_alloc w _).1,⟨rfl,λi e p he=>by simp at he⟩,λk hk'=>?_,.inl h.fr.size⟩ λj b hj hbj e=>?_⟩
 ·exact absurd (h.lt _ _ hk').1 (by omega)
 ·have e:w.heap.size=b:=e;have:=h.blk_lt hj hbj;omega
end
end
section
theorem a5v {t:Nat} (h:b07 t=true):(ty t).kind=.array->∀e,(ty t).val=some e->c8 e=true:=λhk e he=>by
 unfold b07 at h;rw[hk,he] at h;exact h
section
variable {I0:Nat->Nat->Prop} {X:Nat->Prop} {w0:W0} {I:Nat->Nat->Prop} {g:Nat->Value} {s:S} {a:Act} {w:World}
theorem T6 {o:Oper} {Q:Exit->Act->World->Prop} {K:S->Prop} {m:Sem Value} (he:execOp a.eval o=(do pure (.value (<-m)))) (hy:Yld I0 X w0 g s a w m λx=>K (s.put o.dst x)):o.wp Tryd.prog a w (λa' w'=>∃s',U8 I0 X w0 s' a' w'/\K s') Q:=by
 obtain⟨v,x,w',I',h1,h2,h3,h4⟩:=hy;unfold Oper.wp;rw[he];simp only[Sem.run_bind,h1,Result.andThen_ok,Sem.run_pure];rw[Oper.upon_value];exact⟨_,⟨I',g,h2.put h3 _⟩,h4⟩
theorem a6m {o:Oper} {Q:Exit->Act->World->Prop} {K:S->Prop} {m:Sem Value} (he:(execOp a.eval o).run Tryd.prog w=(m.run Tryd.prog w).andThen λv w'=>.ok (.value v) w') (hy:Yld I0 X w0 g s a w m λx=>K (s.put o.dst x)):o.wp Tryd.prog a w (λa' w'=>∃s',U8 I0 X w0 s' a' w'/\K s') Q:=by
 obtain⟨v,x,w',I',h1,h2,h3,h4⟩:=hy;unfold Oper.wp;rw[he,h1,Result.andThen_ok,Oper.upon_value];exact⟨_,⟨I',g,h2.put h3 _⟩,h4⟩
theorem b2k {o:Oper} {Q:Exit->Act->World->Prop} {K:S->Prop} (h:RelI I0 X w0 I g s a w) {v:Value} {x:V} (he:execOp a.eval o=pure (.value v)) (hv:AtV I w g v x) (hK:K (s.put o.dst x)):o.wp Tryd.prog a w (λa' w'=>∃s',U8 I0 X w0 s' a' w'/\K s') Q:=by
 unfold Oper.wp;rw[he,Sem.run_pure,Oper.upon_value];exact⟨_,⟨I,g,h.put hv _⟩,hK⟩
theorem a0Y {t:Nat} (h:a5j t=true):∀e,(ty t).elem=some e->c8 e=true:=λe he=>by
 unfold a5j at h;rw[he] at h;exact h
theorem a0K {o:Oper} {f:Nat} {x:Operand} {args:Array Operand} {ts:Array Nat} {cs:List Value} (ho:o.op=.call ⟨.value x,args,ts⟩) (hx:a.eval x=.func (.func f) #[] cs.toArray) (hf:a0U Tryd.prog f=true):(execOp a.eval o).run Tryd.prog w=.ok (.enter f (args.toList.map a.eval++cs).toArray) w:=by
 unfold a0U at hf;cases hfn:Tryd.prog.funcs[f]? with
 | none=>rw[hfn] at hf;cases hf
 | some fn =>
  rw[hfn] at hf;simp only[c2B,bne_iff_ne,ne_eq] at hf;have h1:(fn.name == "runtime.NumGoroutine")=false:=c2O.2 hf.1
  have h2:fn.body.isNone=false:=by
   cases hb:fn.body with
   | none=>rw[hb] at hf;simp at hf
   | some c=>rfl
  have h4:(args.map a.eval)++cs.toArray=(args.toList.map a.eval++cs).toArray:=by apply c4j;simp
  unfold execOp;simp only[ho,resolve,hx,Deferred.ofValue,invoke,callFunc,Sem.run_bind,Sem.run_pure,Result.andThen_ok,program,Sem.run,hfn,h1,h2,<-h4]
  simp
theorem b81 (h:RelI I0 X w0 I g s a w) {o:Oper} {Q:Exit->Act->World->Prop} {K:S->Prop} {f:Nat} {us:List Value} {vs:List V} {rs q:List R} (hrun:a0U Tryd.prog f=true->(execOp a.eval o).run Tryd.prog w=.ok (.enter f us.toArray) w) (hv:f9 I w g us vs) (hrs:a0A s.o vs=some rs) (hq:m6 f rs q) (hK:K (s.put o.dst (a2v q))):o.wp Tryd.prog a w (λa' w'=>∃s',U8 I0 X w0 s' a' w'/\K s') Q:=by
 have hat:=a4z h hv hrs;have hc:=hq.2 I w _ h.wld hat;unfold Oper.wp;rw[hrun hq.1,Oper.upon_enter];refine hc.mono ?_
 rintro e w' ⟨v,rfl,hres,hbel⟩
 have h5:=h.grow hbel (I':=nxt I w w') (λ_ _ h=>.inl h) (λ_ _ h=>h);exact⟨_,⟨_,g,h5.put (a6k g hres) _⟩,hK⟩
theorem a6S (h:RelI I0 X w0 I g s a w) {o:Oper} {Q:Exit->Act->World->Prop} {K:S->Prop} {f:Nat} {us:List Value} {vs:List V} (hrun:a0U Tryd.prog f=true->(execOp a.eval o).run Tryd.prog w=.ok (.enter f us.toArray) w) (hv:f9 I w g us vs) (hK:a7.callo f vs s (λv s'=>K (s'.put o.dst v))):o.wp Tryd.prog a w (λa' w'=>∃s',U8 I0 X w0 s' a' w'/\K s') Q:=by
 obtain⟨hf,hK⟩:=hK;unfold Oper.wp;rw[hrun hf,Oper.upon_enter];refine(hK I0 X w0 I g s.t a w us h hv).mono ?_
 rintro e w' ⟨v,x,o',ks,I',g',rfl,h',hv',hK⟩
 exact⟨_,⟨I',g',h'.put hv' _⟩,hK⟩
theorem b61 (h:RelI I0 X w0 I g s a w) {o:Oper} {Q:Exit->Act->World->Prop} {K:S->Prop} {f:Nat} {us:List Value} {vs:List V} {l:List Nat} (hrun:a0U Tryd.prog f=true->(execOp a.eval o).run Tryd.prog w=.ok (.enter f us.toArray) w) (hv:f9 I w g us vs) (hK:a7.callx f vs l s (λv s'=>K (s'.put o.dst v))):o.wp Tryd.prog a w (λa' w'=>∃s',U8 I0 X w0 s' a' w'/\K s') Q:=by
 obtain⟨hf,hK⟩:=hK;unfold Oper.wp;rw[hrun hf,Oper.upon_enter];refine(hK I0 X w0 I g s.t a w us h hv).mono ?_
 rintro e w' ⟨v,x,o',I',g',rfl,h',hv',_,hK⟩
 exact⟨_,⟨I',g',h'.put hv' _⟩,hK⟩
theorem b33 (h:RelI I0 X w0 I g s a w) {o:Oper} {Q:Exit->Act->World->Prop} {K:S->Prop} {f:Nat} {us:List Value} {vs:List V} (hrun:a0U Tryd.prog f=true->(execOp a.eval o).run Tryd.prog w=.ok (.enter f us.toArray) w) (hv:f9 I w g us vs)
  (hK:callV a7 s.o (λx=>K (s.put o.dst x)) f vs):o.wp Tryd.prog a w (λa' w'=>∃s',U8 I0 X w0 s' a' w'/\K s') Q:=by
 unfold callV at hK
 split at hK
 ·rename_i rs hrs;obtain⟨q,hq,hK⟩:=hK;exact b81 h hrun hv hrs hq hK
 ·obtain⟨q,⟨hf,hq⟩,hK⟩:=hK;unfold Oper.wp;rw[hrun hf,Oper.upon_enter];refine(hq I0 X w0 I g s.t a w _ h hv).mono ?_
  rintro e w' ⟨v,I',g',rfl,h',hres⟩
  exact⟨_,⟨I',g',h'.put hres _⟩,hK⟩
theorem b34 (h:RelI I0 X w0 I g s a w):∀ {l:List V} {us:List Value} {ks:List Nat},f9 I w g us l->b02 l=some ks->us.length=ks.length/\∀(i:Nat) (u:Value) (k:Nat),us[i]?=some u->ks[i]?=some k->u=g k/\∃b,g k=.pointer (some ⟨b,0,none⟩)
 | [],us,ks,hv,hp=>by
  rw[b02] at hp;injection hp with hp;subst hp;rw[hv.unnil];exact⟨rfl,λi u k hu=>by simp at hu⟩
 | x::l,us,ks,hv,hp=>by
  obtain⟨u,us',rfl,h1,h2⟩:=hv.uncons;unfold b02 at hp
  split at hp
  ·rename_i e;cases e
  ·rename_i k l' e;injection e with e1 e2;subst e1;subst e2
   split at hp
   ·rename_i ks' hks;injection hp with hp;subst hp;obtain⟨h3,h4⟩:=b34 h h2 hks;obtain⟨b,hg,rfl⟩:=h1.unptr;refine⟨by simp[h3],λi v j hv hj=>?_⟩;cases i with
    | zero=>simp at hv hj;subst hv;subst hj;exact⟨hg.symm,b,hg⟩
    | succ i=>exact h4 i v j (by simpa using hv) (by simpa using hj)
   ·cases hp
  ·cases hp
theorem a98:∀ {ks:List Nat} {us:List Value},us.length=ks.length->(∀(i:Nat) (u:Value) (k:Nat),us[i]?=some u->ks[i]?=some k->u=g k/\∃b,g k=.pointer (some ⟨b,0,none⟩))->f9 I w g us (a63 ks)
 | [],us,hl,_=>by rw[c2M hl];exact .nil I w g
 | k::ks,[],hl,_=>by simp at hl
 | k::ks,u::us,hl,h=>by
  obtain⟨h1,b,h2⟩:=h 0 u k rfl rfl;refine .cons ?_ (a98 (by simpa using hl) λi v j hv hj=>h (i+1) v j (by simpa using hv) (by simpa using hj));rw[h1,h2];exact .ptr k 0 b h2
theorem T7:∀l m:List V,a1S l m=l++m
 | [],m=>rfl
 | x::l,m=>by rw[a1S,T7 l m];rfl
theorem c0e (h:RelI I0 X w0 I g s a w) {o:Oper} {Q:Exit->Act->World->Prop} {K:S->Prop} {t n:Nat} {ps:Array (Nat×Operand)} (ho:o.op=.buildSlice t (n+1) ps) (hop:U9 Tryd.prog o.op=true) (hK:litV a7 s o.dst K t (n+1) ps.toList):o.wp Tryd.prog a w (λa' w'=>∃s',U8 I0 X w0 s' a' w'/\K s') Q:=by
 rw[ho] at hop;simp only[U9,c2B] at hop;unfold litV at hK
 split at hK <;> try exact hK.elim
 rename_i e he
 have hte:∀e,(ty t).elem=some e->c8 e=true/\(n+1) * (ty e).sz<=16777216:=λe he=>by
  have h2:=hop.2;rw[he] at h2;simp only[c2B] at h2;exact⟨h2.1,c3u h2.2⟩
 obtain⟨e',rows,us,he',hke,hrun,hl,hrl,hr1,hat,hK⟩:=a2C h hop.1.1 hte ps hK;rw[he] at he';injection he' with he'
 subst he';obtain⟨z0,hK⟩:=hK;have hb:Below w.heap.size w (w.alloc (.cells us.toArray e)):=(Below.refl _ _).alloc (c2A _) _;have hk:n7 I w (w.alloc (.cells us.toArray e)):=λb k hbk i _=>hb.cell (p:=⟨b,i,none⟩) (h.lt b k hbk).1
 have h2:=h.grow hb (I':=λb k=>I b k\/(z0=true/\b=w.heap.size/\k<=(n+1) * (ty e).sz)) (λ_ _ h=>.inl h) (λb k hk=>by
  rcases hk with hk|⟨_,hk,_⟩
  ·exact .inl hk
  ·exact .inr ⟨by omega,by simp[hk]⟩)
 have h3:=h2.newObj (.row z0 e rows) (.slice (some ⟨w.heap.size,0,none⟩) (n+1) (n+1)) ⟨us,by
   rw[d9,hrl];refine⟨hl,.inr ⟨w.heap.size,n+1,us.toArray,rfl,c3d _,heap_alloc_new w _,c2A _,?_,by simp[hl],by simp[<-hl]⟩⟩;have:=c3u hop.1.2;unfold maxLen
   omega,hr1,hat.mono (λ_ _ h=>.inl h) hk,λb hb=>by
   rw[d9] at hb;have hb:=Option.some.inj hb;subst hb;refine⟨λhz=>.inr ⟨hz,rfl,by rw[hrl];exact c2A _⟩,λk hk=>?_,.inl h.fr.size⟩
   rcases hk with hk|⟨hz,_,hk⟩
   ·exact absurd (h.lt _ _ hk).1 (c4J _)
   ·exact⟨hz,by rw[hrl];exact hk⟩⟩ (λj b hj hb hb'=>by
   have hb':w.heap.size=b:=hb';have h4:=h.blk_lt hj hb
   omega)
 unfold Oper.wp
 have hex:(execOp a.eval o).run Tryd.prog w=.ok (.value (.slice (some ⟨w.heap.size,0,none⟩) (n+1) (n+1))) (w.alloc (.cells us.toArray e)):=by
  unfold execOp;rw[ho];simp only[Sem.run_bind,hrun,Result.andThen_ok,Sem.run_pure]
 rw[hex,Oper.upon_value];exact⟨_,⟨_,_,h3.put (x:=.own (j2 s.o)) (.own _ _ _ _ (by rw[m7,d9];rfl)) _⟩,hK⟩
set_option maxRecDepth 20000 in
theorem b62 (h:RelI I0 X w0 I g s a w) {i f:Nat} {ks:List Nat} (hf:fnV (m8 s.t i)=some (f,ks)):∃cs:List Value,a.eval (.tmp i)=.func (.func f) #[] cs.toArray/\f9 I w g cs (a63 ks):=by
 have hx:AtV I w g (a.eval (.tmp i)) (m8 s.t i):=h.get (.tmp i);unfold fnV at hf
 split at hf
 ·rename_i f' ks' hcl;injection hf with hf;injection hf with e1 e2;subst e1;subst e2;rw[hcl] at hx;generalize a.eval (.tmp i)=y at hx ⊢;cases hx with
  | cl f us ks hl h2=>exact⟨us,rfl,a98 hl h2⟩
 ·rename_i f' hd;injection hf with hf;injection hf with e1 e2;subst e1;subst e2;rw[hd] at hx;exact⟨[],hx.sc,.nil I w g⟩
 ·cases hf
theorem b63 (h:RelI I0 X w0 I g s a w) {x:Operand} {f:Nat} {ks:List Nat} (hf:fnV (s.get x)=some (f,ks)):∃cs:List Value,a.eval x=.func (.func f) #[] cs.toArray/\f9 I w g cs (a63 ks):=by
 have hx:AtV I w g (a.eval x) (s.get x):=h.get x;unfold fnV at hf
 split at hf
 ·rename_i f' ks' hcl;injection hf with hf;injection hf with e1 e2;subst e1;subst e2;rw[hcl] at hx;generalize a.eval x=y at hx ⊢;cases hx with
  | cl f us ks hl h2=>exact⟨us,rfl,a98 hl h2⟩
 ·rename_i f' hd;injection hf with hf;injection hf with e1 e2;subst e1;subst e2;rw[hd] at hx;exact⟨[],hx.sc,.nil I w g⟩
 ·cases hf
set_option maxRecDepth 10000 in
theorem a4A (h:RelI I0 X w0 I g s a w) {o:Oper} {Q:Exit->Act->World->Prop} {K:S->Prop} (hop:U9 Tryd.prog o.op=true) (hK:stepC a7 s.get s.o (λx=>K (s.put o.dst x)) o.op):o.wp Tryd.prog a w (λa' w'=>∃s',U8 I0 X w0 s' a' w'/\K s') Q:=by
 obtain⟨dst,op,type,pos,after,gd⟩:=o;simp only at hop hK ⊢;unfold stepC at hK
 split at hK <;> try exact hK.elim
 ·rename_i x;exact b2k h rfl (h.get x) hK
 ·rename_i x;exact b2k h rfl (h.get x) hK
 ·rename_i c x y;exact a6m (by simp only[execOp,Sem.run_bind];cases (asBool (a.eval c)).run Tryd.prog w <;> rfl) (b8z h (h.get c) (h.get x) (h.get y) hK)
 ·rename_i t x;exact T6 rfl (b8v h hop (h.get x) hK)
 ·rename_i t x i;exact T6 rfl (b6s h hop (h.get x) hK)
 ·rename_i t x i;simp only[U9,c2B] at hop;exact T6 rfl (b8w h hop.1 (λu hu=>c3a.1 hop.2 u (c2F hu)) (h.get x) hK)
 ·rename_i t x i;simp only[U9,c2B] at hop;exact T6 rfl (b6t h hop.1.1 (a0Y hop.1.2) (a5v hop.2) (h.get x) (h.get i) hK)
 ·rename_i t x i;simp only[U9,c2B] at hop;exact T6 rfl (b8y h hop.1 (a5v hop.2) (h.get x) (h.get i) hK)
 ·rename_i op t x y yt;exact T6 rfl (c0a h hop x y (h.get x) (h.get y) hK)
 ·rename_i op t x;exact T6 rfl (c1f h (h.get x) hK)
 ·rename_i t0 t x;simp only[U9,c2B] at hop;exact T6 rfl (b8x h hop.1.1 hop.1.2 hop.2 (h.get x) hK)
 ·rename_i t ps;simp only[U9,c2B] at hop;exact T6 rfl (b6x h hop.1 (a5v hop.2) ps hK)
 ·rename_i t n ps;simp only[U9,c2B] at hop;refine T6 rfl (a8j h hop.1.1 (λe he=>?_) ps hK);have h2:=hop.2;rw[he] at h2;simp only[c2B] at h2;exact⟨h2.1,c3u h2.2⟩
 ·rename_i x i;exact T6 rfl (b2i h (h.get x) hK)
 ·rename_i t x lo hi;simp only[U9,c2B] at hop;exact T6 rfl (b6z h hop.1 (a0Y hop.2) (h.get x) hK)
 ·rename_i x t;refine a6m (m:=Builtin.len_ #[t] type #[a.eval x]) ?_ (c0b h hop (h.get x) hK)
  simp[execOp,resolve,invoke,builtin]
 ·rename_i f args ts;exact b33 h (λhf=>a0K (cs:=[]) rfl rfl hf) (by rw[c3b];exact h.gets args.toList) hK
 ·rename_i t x i ok;simp only[U9,c2B] at hop;exact T6 rfl (b80 h hop.1 hop.2 (h.get x) (h.get i) hK)
 ·rename_i args ts;have e:args.map a.eval=(args.toList.map a.eval).toArray:=by apply c4j;simp
  refine a6m (s:=s) (g:=g) (m:=Builtin.min_ ts type (args.map a.eval)) (by simp[execOp,resolve,invoke,builtin]) ?_;rw[e];exact b6y (mx:=false) (ts:=ts) (ty':=type) h (h.gets args.toList) hK
 ·rename_i args ts;have e:args.map a.eval=(args.toList.map a.eval).toArray:=by apply c4j;simp
  refine a6m (s:=s) (g:=g) (m:=Builtin.max_ ts type (args.map a.eval)) (by simp[execOp,resolve,invoke,builtin]) ?_;rw[e];exact b6y (mx:=true) (ts:=ts) (ty':=type) h (h.gets args.toList) hK
 ·rename_i x;obtain⟨h1,_,h2⟩:=c1g h (h.get x) hK;refine b2k h (v:=a.eval x) ?_ (h.get x) h1;unfold execOp
  rcases h2 with⟨b,hb⟩|⟨f,cs,hb⟩ <;> simp only[hb]
 ·rename_i f cs
  split at hK <;> try exact hK.elim
  rename_i ks hks;obtain⟨h1,h2⟩:=b34 h (h.gets cs.toList) hks;have e:cs.map a.eval=(cs.toList.map a.eval).toArray:=by apply c4j;simp
  refine T6 rfl (yld (v:=.func (.func f) #[] (cs.toList.map a.eval).toArray) h ?_ (.cl f _ ks h1 h2) hK);rw[e]
  simp[Instr.makeFunc]
 ·rename_i i args ts;unfold a5h at hK
  split at hK <;> try exact hK.elim
  rename_i f ks hf;obtain⟨cs,hc1,hc2⟩:=b62 h hf;exact b33 h (λhf=>a0K (cs:=cs) rfl hc1 hf) (by rw[T7];exact(h.gets args.toList).append hc2) hK
theorem b64 {o:Oper} {Q:Exit->Act->World->Prop} {K:S->Prop} (h:RelI I0 X w0 I g s a w) {us:List Value} {cs:List V} {t:Nat} (hu:f9 I w g us cs) (h1:∀u∈us,u.oneCell'=true)
  (he:(execOp a.eval o).run Tryd.prog w=.ok (.value (.pointer (some ⟨w.heap.size,0,none⟩))) (w.alloc (.cells us.toArray t))) (hK:K ((s.obj (.box cs)).put o.dst (.ptr (j2 s.o) 0))):o.wp Tryd.prog a w (λa' w'=>∃s',U8 I0 X w0 s' a' w'/\K s') Q:=by
 unfold Oper.wp;rw[he,Oper.upon_value];obtain⟨g',hg,h2⟩:=h.box hu h1 t;rw[<-m7] at hg;exact⟨_,⟨I,g',h2.put (.ptr _ 0 _ hg) _⟩,hK⟩
theorem b65 {o:Oper} {Q:Exit->Act->World->Prop} {K:S->Prop} (h:RelI I0 X w0 I g s a w) {us:List Value} {t:Nat}
  (he:(execOp a.eval o).run Tryd.prog w=.ok (.value (.pointer (some ⟨w.heap.size,0,none⟩))) (w.alloc (.cells us.toArray t))) (hK:K ((s.obj (.ob t us)).put o.dst (.ptr (j2 s.o) 0))):o.wp Tryd.prog a w (λa' w'=>∃s',U8 I0 X w0 s' a' w'/\K s') Q:=by
 unfold Oper.wp;rw[he,Oper.upon_value];obtain⟨g',hg,h2⟩:=h.obNew us t;rw[<-m7] at hg;exact⟨_,⟨I,g',h2.put (.ptr _ 0 _ hg) _⟩,hK⟩
theorem a5T (I:Nat->Nat->Prop) (w:World) (g:Nat->Value) {l:List Value} (h:a2u (A6 l)=true):∀u∈l,u.oneCell'=true:=a6l (I:=I) (w:=w) (g:=g) (H0 l) h
theorem b4Y {m:Bool} (h:RelI I0 X w0 I g s a w) {o:Oper} {Q:Exit->Act->World->Prop} {K:S->Prop} {x y:Operand} {t:Nat} (ho:o.op=.call ⟨.builtin .append,⟨[x,y]⟩,⟨[t,t]⟩⟩) (ht:c8 t=true) (hte:∀e,(ty t).elem=some e->c8 e=true/\0<(ty e).sz)
  (hK:A9 a7 m s o.dst K t (s.get x) (s.get y)):o.wp Tryd.prog a w (λa' w'=>∃s',U8 I0 X w0 s' a' w'/\K s') Q:=by
 unfold A9 at hK
 split at hK <;> try exact hK.elim
 rename_i e he
 split at hK <;> try exact hK.elim
 rename_i sz ys hys
 split at hK <;> try exact hK.elim
 rename_i hsz;obtain⟨hke,hpos⟩:=hte e he;have hun:=E4 ht he;obtain⟨i,z,hi,his,hiz,hzc,hzl,hby⟩:=a0C hke;have hzs:z.cells.size=(ty e).sz:=by rw[hzc];simp[hzl]
 obtain⟨hd,hnil⟩:=a96 h (h.get y) hys;have hd2:=b3y hsz hd hnil;obtain⟨A,cap,hyv,hcap,hrows⟩:=hd2.slice
 obtain⟨vs,hsrc,hrl,hvs⟩:∃vs,b6e w A ys.length (ty e).sz vs/\(∀r∈ys,r.length=(ty e).sz)/\s8 I w vs ys.flatten:=by
  rcases hrows with rfl|⟨b,off,us,rfl,hI,hrl,hl,hc,hds⟩
  ·exact⟨[],⟨by simp,by simp,λad _ j u hu=>by simp at hu,by simp⟩,by simp,.nil I w⟩
  ·exact⟨us,⟨hl,by simp,λad had j u hu=>by have h9:=Option.some.inj had;rw[<-h9,Addr.add_lit];exact hc j u hu,hds.one⟩,hrl,hds⟩
 have room:∀n,n+ys.length<=137438953472->n+ys.length<=maxLen/\(n+ys.length) * i.bytes<=140737488355328:=λn hn=>by
  refine⟨by unfold maxLen;omega,?_⟩
  have h1:(n+ys.length) * i.bytes<=137438953472 * 1024:=Nat.mul_le_mul hn hby
  omega
 have hexec:∀v' w',(Builtin.append_ #[t,t] o.type #[a.eval x,.slice A ys.length cap]).run Tryd.prog w=.ok v' w'->(execOp a.eval o).run Tryd.prog w=.ok (.value v') w':=λv' w' hr=>by
  unfold execOp;rw[ho];simp only[resolve,invoke,builtin,Sem.run_bind,Sem.run_pure,Result.andThen_ok,List.map_toArray,c2Y,c4d,hyv,hr]
 have hx:=h.get x
 split at hK <;> try exact hK.elim
 ·-- behind nothing
  rename_i hxe;rw[hxe] at hx;obtain⟨hroom,z0,hK⟩:=hK;have hr:=room 0 (show 0+ys.length<=137438953472 from hroom);have hxv:a.eval x=.slice none 0 0:=hx.unem;obtain⟨v',w',hrun,hown,hsp⟩:=Y4 (P:=Tryd.prog) w 0 t o.type e i z (ty e).sz i.bytes hun hi hiz his rfl hzs hpos (.slice none 0 0) 0 [] (World.ownsRow_nil w 0 e _) A ys.length cap vs hsrc hr.1 hr.2 (c3d _)
  rcases hsp with⟨b,hb,_⟩|⟨hbel,hblk⟩
  ·cases hb
  rw[c3v,c3t] at hown;have hkp:n7 I w w':=λb k hbk i _=>hbel.cell (p:=⟨b,i,none⟩) (h.lt b k hbk).1
  have hlt:∀b,v'.ownBlock=some b->b=w.heap.size/\b<w'.heap.size:=λb hb=>by
   refine⟨?_,(hown.lt b hb).2⟩
   rcases hblk with h1|h1
   ·rw[h1] at hb;cases hb
   ·rw[h1] at hb;exact(Option.some.inj hb).symm
  have h2:=h.grow hbel (I':=λb k=>I b k\/(z0=true/\v'.ownBlock=some b/\k<=ys.length * (ty e).sz)) (λ_ _ h=>.inl h) (λb k hk=>by
   rcases hk with hk|⟨_,hk,_⟩
   ·exact .inl hk
   ·obtain⟨h1,h2⟩:=hlt b hk;exact .inr ⟨by omega,h2⟩)
  have h3:=h2.newObj (.row z0 e ys) v' ⟨vs,by rw[d9];exact hown,hrl,hvs.mono (λ_ _ h=>.inl h) hkp,λb hb=>by
   rw[d9] at hb;refine⟨λhz=>.inr ⟨hz,hb,c2A _⟩,λk hk=>?_,.inl ?_⟩
   ·rcases hk with hk|⟨hz,_,hk⟩
    ·have:=(h.lt _ _ hk).1;have:=(hlt b hb).1;omega
    ·exact⟨hz,hk⟩
   ·have:=(hlt b hb).1;have:=h.fr.size;omega⟩ (λj b hj hb hb'=>by
   have hb':=(a0T hown).1 hb';have h1:=(hlt b hb').1;have h2:=h.blk_lt hj hb
   omega)
  unfold Oper.wp;rw[hexec v' w' (by rw[hxv];exact hrun),Oper.upon_value];obtain⟨A',c',hv'⟩:=L8 hown;refine⟨_,⟨_,_,(RelI.freshly h3).put (x:=.own (j2 s.o)) ?_ _⟩,hK⟩;rw[hv'];exact .own _ _ _ _ (by rw[m7,d9];rfl)
 ·-- behind a row
  rename_i k hxk;rw[hxk] at hx
  split at hK <;> try exact hK.elim
  rename_i z0 e' xs hok
  split at hK <;> try exact hK.elim
  rename_i hee;rw[w8] at hee;subst hee;obtain⟨hroom,hK⟩:=hK;have hr:=room xs.length (show xs.length+ys.length<=137438953472 from hroom);have hk:=j1 hok (by simp);obtain⟨us,hown,hxl,hxd,hxb⟩:=h.obj k _ hk;have hxv:a.eval x=g k:=hx.unown.1.trans (a27 hown);obtain⟨v',w',hrun,hown',hsp⟩:=Y4 (P:=Tryd.prog) w 0 t o.type e' i z (ty e').sz i.bytes hun hi hiz his rfl hzs hpos (g k) xs.length us hown A ys.length cap vs hsrc hr.1 hr.2 (c3d _);obtain⟨I',g',hg',h2⟩:=h.appended hk hown hrl hvs hown' hsp;unfold Oper.wp;rw[hexec v' w' (by rw[hxv];exact hrun),Oper.upon_value];obtain⟨A',c',hv'⟩:=L8 hown';rw[x5] at hK;refine⟨_,⟨_,_,h2.put (x:=.own k) ?_ _⟩,hK⟩;rw[hv'];exact .own _ _ _ _ (by rw[hg',hv'];rfl)
theorem b0G {α:Type} (n:Nat) (l:List α):(List.replicate n l).flatten.length=n * l.length:=by
 rw[List.length_flatten,List.map_replicate,List.sum_replicate_nat]
theorem b82 (h:RelI I0 X w0 I g s a w) {o:Oper} {Q:Exit->Act->World->Prop} {K:S->Prop} {x y:Operand} {t:Nat} (ho:o.op=.makeSlice t x y) (ht:c8 t=true) (hte:∀e,(ty t).elem=some e->c8 e=true)
  (hK:N1 a7 s o.dst K t (s.get x) (s.get y)):o.wp Tryd.prog a w (λa' w'=>∃s',U8 I0 X w0 s' a' w'/\K s') Q:=by
 have hx:=h.get x;have hy:=h.get y;unfold N1 at hK
 split at hK <;> try exact hK.elim
 rename_i k n k' m e1 e2;rw[e1] at hx;rw[e2] at hy
 split at hK <;> try exact hK.elim
 rename_i hnm;have hnm:n=m:=by simpa [a7] using hnm
 subst hnm
 split at hK <;> try exact hK.elim
 rename_i e he
 split at hK <;> try exact hK.elim
 rename_i z hz;obtain⟨⟨h1,h2,h3⟩,z0,hK⟩:=hK;have hke:=hte e he;have hun:=E4 ht he;obtain⟨i,zv,hi,his,hiz,hzc,hzl,hby⟩:=a0C hke
 have hzat:=a3m (s:=⟨s.t,s.o⟩) h (H0 (I:=I) (w:=w) (g:=g) (ty e).zero) (by
  have key:∀ {l:List V} {ds:List D},a2n [] l=some ds->a2n s.o l=some ds:=by
   intro l
   induction l with
   | nil=>intro ds h;exact h
   | cons v l ih =>
    intro ds h;rw[a2n] at h ⊢
    split at h
    ·rename_i y hy
     split at h
     ·rename_i ys hys
      have:toD s.o v=some y:=by
       cases v with
       | own k=>simp[toD,m5] at hy
       | cl f ks=>cases ks <;> exact hy
       | _=>exact hy
      rw[this,ih hys];exact h
     ·cases h
    ·cases h
  exact key hz)
 have hzlen:z.length=(ty e).sz:=by rw[<-hzat.1,hzl]
 obtain⟨N,hN⟩:∃N,N=n.toNat:=⟨_,rfl⟩;rw[<-hN] at h3 hK
 have hrun:=run_makeSlice (P:=Tryd.prog) w t e i zv hun hi hiz k k' n n h1 (Int.le_refl _) (by rw[<-hN,his,<-hzlen];exact h3) (by
  have:(i.bytes:Int) * n<=1024 * 16777216:=Int.mul_le_mul (by omega) h2 h1 (by decide)
  omega) (by omega)
 rw[<-hN] at hrun
 have hcells:(madeCells zv.cells (N * i.size)).toList=(List.replicate N (ty e).zero).flatten:=by
  have:=a3T (ty e).zero.toArray N;have e3:(ty e).zero.toArray.size=(ty e).sz:=by simp[hzl]
  rw[hzc,his,<-e3];exact this
 obtain⟨us,hus⟩:∃us,us=(List.replicate N (ty e).zero).flatten:=⟨_,rfl⟩;have hmade:madeCells zv.cells (N * i.size)=us.toArray:=by apply c4j;rw[hcells,hus]
 rw[hmade] at hrun;have hul:us.length=N * (ty e).sz:=by rw[hus,b0G,hzl]
 have hrl:(List.replicate N z).length=N:=List.length_replicate;have hr1:∀r∈List.replicate N z,r.length=(ty e).sz:=λr hr=>by rw[List.eq_of_mem_replicate hr,hzlen]
 have hat:s8 I w us (List.replicate N z).flatten:=by
  refine⟨by rw[hul,b0G,hzlen],λj u d hu hd=>?_⟩;have hj:j<N * (ty e).sz:=by rw[<-hul];exact(c25.1 hu).1
  have hpos:0<(ty e).sz:=by
   rcases c4U (ty e).sz with h0|h0
   ·rw[h0,Nat.mul_zero] at hj;omega
   ·exact h0
  have hq:j / (ty e).sz<N:=(c4F hpos).2 hj;have hr:j % (ty e).sz<(ty e).sz:=Nat.mod_lt _ hpos;have ej:j / (ty e).sz * (ty e).sz+j % (ty e).sz=j:=by rw[Nat.mul_comm];exact Nat.div_add_mod j _
  rw[hus,<-ej,K6 (λr hr=>by rw[List.eq_of_mem_replicate hr,hzl]) (List.getElem?_replicate_of_lt hq) hr] at hu;rw[<-ej,K6 hr1 (List.getElem?_replicate_of_lt hq) hr] at hd;exact hzat.2 _ u d hu hd
 have hb:Below w.heap.size w (w.alloc (.cells us.toArray e)):=(Below.refl _ _).alloc (c2A _) _;have hk:n7 I w (w.alloc (.cells us.toArray e)):=λb k hbk i _=>hb.cell (p:=⟨b,i,none⟩) (h.lt b k hbk).1
 have h4:=h.grow hb (I':=λb k=>I b k\/(z0=true/\b=w.heap.size/\k<=N * (ty e).sz)) (λ_ _ h=>.inl h) (λb k hk=>by
  rcases hk with hk|⟨_,hk,_⟩
  ·exact .inl hk
  ·exact .inr ⟨by omega,by simp[hk]⟩)
 have h5:=h4.newObj (.row z0 e (List.replicate N z)) (.slice (some ⟨w.heap.size,0,none⟩) N N) ⟨us,by
   rw[d9,hrl];refine⟨hul,.inr ⟨w.heap.size,N,us.toArray,rfl,c3d _,heap_alloc_new w _,c2A _,?_,by simp[hul],by simp[<-hul]⟩⟩;unfold maxLen
   omega,hr1,hat.mono (λ_ _ h=>.inl h) hk,λb hb=>by
   rw[d9] at hb;have hb:=Option.some.inj hb;subst hb;refine⟨λhz=>.inr ⟨hz,rfl,by rw[hrl];exact c2A _⟩,λk hk=>?_,.inl h.fr.size⟩
   rcases hk with hk|⟨hz,_,hk⟩
   ·exact absurd (h.lt _ _ hk).1 (c4J _)
   ·exact⟨hz,by rw[hrl];exact hk⟩⟩ (λj b hj hb hb'=>by
   have hb':w.heap.size=b:=hb';have h4:=h.blk_lt hj hb
   omega)
 unfold Oper.wp
 have hex:(execOp a.eval o).run Tryd.prog w=.ok (.value (.slice (some ⟨w.heap.size,0,none⟩) N N)) (w.alloc (.cells us.toArray e)):=by
  unfold execOp;rw[ho];simp only[hx.sc,hy.sc,Sem.run_bind,hrun,Result.andThen_ok,Sem.run_pure]
 rw[hex,Oper.upon_value];exact⟨_,⟨_,_,h5.put (x:=.own (j2 s.o)) (.own _ _ _ _ (by rw[m7,d9];rfl)) _⟩,hK⟩
set_option maxRecDepth 20000 in
theorem b35 {m:Bool} (h:RelI I0 X w0 I g s a w) {o:Oper} {Q:Exit->Act->World->Prop} {K:S->Prop} (hop:U9 Tryd.prog o.op=true) (hK:step a7 m s o.dst K o.op):o.wp Tryd.prog a w (λa' w'=>∃s',U8 I0 X w0 s' a' w'/\K s') Q:=by
 obtain⟨dst,op,type,pos,after,gd⟩:=o;simp only at hop hK;unfold step at hK
 split at hK
 ·rename_i e
  split at hK <;> try exact hK.elim
  rename_i h1;have ht:c8 e=true:=hop;obtain⟨z,hz,hzc⟩:=a4x ht w;unfold a6i at hK
  split at hK
  ·refine b65 h (t:=e) (us:=(ty e).zero) ?_ hK;simp only[execOp,Instr.alloc,Sem.run_bind,hz,Result.andThen_ok,newVar,newRow,hzc,newObj,Sem.run,Sem.run_pure];rfl
  ·refine b64 h (t:=e) (H0 (ty e).zero) (a5T I w g h1) ?_ hK;simp only[execOp,Instr.alloc,Sem.run_bind,hz,Result.andThen_ok,newVar,newRow,hzc,newObj,Sem.run,Sem.run_pure];rfl
 ·rename_i e x
  split at hK <;> try exact hK.elim
  rename_i cs hcs;obtain⟨us,hu1,hu2,hu3⟩:=a45 (h.get x) hcs;refine b64 h (t:=e) hu2 hu3 ?_ hK;simp only[execOp,Instr.box,Sem.run_bind,newVar,newRow,hu1,newObj,Sem.run,Sem.run_pure,Result.andThen_ok];rfl
 ·rename_i t x y
  split at hK <;> try exact hK.elim
  have ht:c8 t=true:=hop;unfold E3 at hK
  split at hK <;> try exact hK.elim
  rotate_left
  ·rename_i k i sz off hx
   split at hK <;> try exact hK.elim
   rename_i e rows hok
   split at hK <;> try exact hK.elim
   rename_i hsz;rw[w8] at hsz
   split at hK <;> try exact hK.elim
   rename_i row hrow
   split at hK <;> try exact hK.elim
   rename_i l hl
   split at hK <;> try exact hK.elim
   rename_i ds hds
   split at hK <;> try exact hK.elim
   rename_i hlen
   split at hK <;> try exact hK.elim
   rename_i row' hrow';obtain⟨vs,hv1,hv2,hv3⟩:=a45 (h.get y) hl;have hvd:=a3m h hv2 hds;have hk:=j1 hok (by simp);obtain⟨b,n,cap,cur,hg,hb,hle,h2⟩:=h.setEl hk (b2h hrow).2 hvd hrow'
   have hxv:a.eval x=.pointer (some ⟨b,i.toNat * (ty e).sz+off,none⟩):=by
    have h3:=h.get x;rw[hx] at h3;generalize a.eval x=ax at h3 ⊢;cases h3 with
    | el k i sz off b' n' cap' hg' =>
     rw[hg] at hg';injection hg' with hg'
     injection hg' with hg'
     injection hg' with hg'
     subst hg';rw[hsz]
   rw[w8,x7] at hlen;have hst:=run_storeCells_at Tryd.prog b (i.toNat * (ty e).sz+off) e vs 0 cur w hb (by simpa using hle) hv3;simp only[c3I] at hst;have hsize:=H8 ht w;have hcz:(a.eval y).cells.size=(ty t).sz:=by rw[hv1];simp[hvd.1,hlen]
   rw[x5] at hK;unfold Oper.wp
   have hrun:(execOp a.eval { dst:=none,op:=Op.store t x y,type:=type,pos:=pos,after:=after,guard:=gd }).run Tryd.prog w=.ok .skip (w.setRow b (cur.toList.take (i.toNat * (ty e).sz+off)++vs++cur.toList.drop (i.toNat * (ty e).sz+off+vs.length)).toArray):=by
    simp only[execOp,Instr.storeAt,Instr.sureAddr,hxv,storeVar,Sem.run_bind,Sem.run_pure,Result.andThen_ok,hsize,hcz]
    simp[hv1,hst]
   rw[hrun,Oper.upon_skip];exact⟨_,⟨I,g,h2⟩,hK⟩
  rename_i k off hx
  split at hK <;> try exact hK.elim
  rename_i cs hok
  split at hK <;> try exact hK.elim
  rename_i l hl
  split at hK <;> try exact hK.elim
  rename_i hsz
  split at hK <;> try exact hK.elim
  rename_i cs' hcs';obtain⟨vs,hv1,hv2,hv3⟩:=a45 (h.get y) hl;have hk:=j1 hok (by simp);obtain⟨b,us,t',hg,hb,hle,h2⟩:=h.store hk hv2 hv3 hcs'
  have hxv:a.eval x=.pointer (some ⟨b,off,none⟩):=by
   have h3:=h.get x;rw[hx] at h3;obtain⟨b',hg',h4⟩:=h3.unptr;rw[hg] at hg';injection hg' with hg'
   injection hg' with hg'
   injection hg' with hg'
   subst hg';exact h4
  rw[w8,x7] at hsz;have hst:=run_storeCells_at Tryd.prog b off t' vs 0 us.toArray w hb (by simpa using hle) hv3;simp only[c3I] at hst;have hsize:=H8 ht w;have hcz:(a.eval y).cells.size=(ty t).sz:=by rw[hv1];simp[hv2.1,hsz]
  rw[x5] at hK;unfold Oper.wp
  have hrun:(execOp a.eval { dst:=none,op:=Op.store t x y,type:=type,pos:=pos,after:=after,guard:=gd }).run Tryd.prog w=.ok .skip (w.setRow b (us.take off++vs++us.drop (off+vs.length)).toArray):=by
   simp only[execOp,Instr.storeAt,Instr.sureAddr,hxv,storeVar,Sem.run_bind,Sem.run_pure,Result.andThen_ok,hsize,hcz]
   simp[hv1,hst]
  rw[hrun,Oper.upon_skip];exact⟨_,⟨I,g,h2⟩,hK⟩
 ·rename_i t x y;simp only[U9,c2B] at hop;exact b82 h rfl hop.1 (a0Y hop.2) hK
 ·rename_i t
  split at hK <;> try exact hK.elim
  rename_i hkd
  split at hK <;> try exact hK.elim
  rename_i kt hkt;obtain⟨g',hg,h2⟩:=c1h h (kt:=kt);rw[<-m7] at hg;unfold Oper.wp
  have hrun:(execOp a.eval { dst:=dst,op:=Op.makeMap t none,type:=type,pos:=pos,after:=after,guard:=gd }).run Tryd.prog w=.ok (.value (.map (some w.heap.size))) (w.alloc (.map #[] 0)):=by
   simp only[execOp,Option.map_none,Instr.makeMap,newObj,Sem.run_bind,Sem.run_pure,Result.andThen_ok,Sem.run];rfl
  rw[hrun,Oper.upon_value];exact⟨_,⟨I,g',h2.put (.mp _ _ hg) _⟩,hK⟩
 ·rename_i t x i v
  split at hK <;> try exact hK.elim
  simp only[U9,c2B] at hop;obtain⟨w',s',hrun,h',hK⟩:=c0d h hop.1 hop.2 (h.get x) (h.get i) (h.get v) hK;unfold Oper.wp
  have hrun':(execOp a.eval { dst:=none,op:=Op.mapUpdate t x i v,type:=type,pos:=pos,after:=after,guard:=gd }).run Tryd.prog w=.ok .skip w':=by
   simp only[execOp,Sem.run_bind,hrun,Result.andThen_ok,Sem.run_pure]
  rw[hrun',Oper.upon_skip];exact⟨_,⟨I,g,h'⟩,hK⟩
 ·rename_i t
  split at hK <;> try exact hK.elim
  rename_i e he;obtain⟨z0,hK⟩:=hK;simp only[U9,c2B] at hop;have ht:=hop.1.1
  have hke:c8 e=true:=by
   have h2:=hop.2;rw[he] at h2;simp only[c2B] at h2;exact h2.1
  have hun:=E4 ht he;have hsize:=H8 hke w
  have hrun:(execOp a.eval { dst:=dst,op:=Op.buildSlice t 0 ⟨[]⟩,type:=type,pos:=pos,after:=after,guard:=gd }).run Tryd.prog w=.ok (.value (.slice (some ⟨w.heap.size,0,none⟩) 0 0)) (w.alloc (.cells #[] e)):=by
   simp only[execOp,Instr.buildSlice,Sem.run_bind,run_underlying hun,Result.andThen_ok,hsize,Nat.zero_mul,Sem.run_ite,Sem.run_pure];rw[c2H (show ¬(0>2 ^ 24) by decide),c2E True.intro];rw[show (Array.range 0).map (λx=>(#[]:Array Value)[x % (#[]:Array Value).size]!)=#[] from by simp];simp only[Array.map_empty,Instr.fill];rfl
  have hb:Below w.heap.size w (w.alloc (.cells #[] e)):=(Below.refl _ _).alloc (c2A _) _
  have h2:=h.grow hb (I':=λb k=>I b k\/(z0=true/\b=w.heap.size/\k=0)) (λ_ _ h=>.inl h) (λb k hk=>by
   rcases hk with hk|⟨_,hk,_⟩
   ·exact .inl hk
   ·exact .inr ⟨by omega,by simp[hk]⟩)
  have h3:=h2.newObj (.row z0 e []) (.slice (some ⟨w.heap.size,0,none⟩) 0 0) ⟨[],by rw[d9];exact World.ownsRow_made w #[] 0 (c3d _) (c3d _) (by simp),by simp,.nil _ _,λb hb=>by
   rw[d9] at hb;have hb:=Option.some.inj hb;subst hb;refine⟨λhz=>.inr ⟨hz,rfl,by simp⟩,λk hk=>?_,.inl h.fr.size⟩
   rcases hk with hk|⟨hz,_,hk⟩
   ·exact absurd (h.lt _ _ hk).1 (c4J _)
   ·exact⟨hz,by rw[hk];exact c3d _⟩⟩ (λj b hj hb hb'=>by
   have hb':w.heap.size=b:=hb';have h4:=h.blk_lt hj hb
   omega)
  unfold Oper.wp;rw[hrun,Oper.upon_value];exact⟨_,⟨_,_,(RelI.freshly h3).put (x:=.own (j2 s.o)) (.own _ _ _ _ (by rw[m7,d9];rfl)) _⟩,hK⟩
 ·rename_i x y t u;simp only[U9,c2B] at hop;obtain⟨⟨⟨h1,h2⟩,h3⟩,h4⟩:=hop;rw[w8] at h3;subst h3;refine b4Y h rfl h1 (λe he=>?_) hK;rw[he] at h4;simp only[c32] at h4;exact⟨a0Y h2 e he,h4⟩
 ·rename_i t n ps
  split at hK
  ·obtain⟨c,hK⟩:=hK;cases c with
   | true=>exact a4A h hop hK
   | false=>exact c0e h rfl hop hK
  ·exact a4A h hop hK
 ·rename_i f args ts
  split at hK
  ·exact a6S h (λhf=>a0K (cs:=[]) rfl rfl hf) (by rw[c3b];exact h.gets args.toList) hK
  ·exact a4A h hop hK
 ·rename_i i args ts
  split at hK
  ·split at hK <;> try exact hK.elim
   rename_i f ks hf;obtain⟨cs,hc1,hc2⟩:=b62 h hf;exact a6S h (λhf=>a0K (cs:=cs) rfl hc1 hf) (by rw[T7];exact(h.gets args.toList).append hc2) hK
  ·exact a4A h hop hK
 ·exact a4A h hop hK
end
end
section
def inD:List (Option Nat)->Nat->Bool
 | [],_=>false
 | some x::l,i=>match B8 x i with|true=>true|false=>inD l i
 | none::l,i=>inD l i
def a99:Oper->Option Nat
 | ⟨_,.load _ (.tmp i),_,_,_,none⟩=>some i
 | _=>none
def a6T (dsts:List (Option Nat)):Oper->Option Nat
 | ⟨none,.store _ (.tmp i) _,_,_,_,none⟩=>match inD dsts i with|true=>none|false=>some i
 | _=>none
def a6n (f:Oper->Option Nat):List Oper->List Nat
 | []=>[]
 | o::l=>match f o with|some i=>i::a6n f l|none=>a6n f l
def L9:Op->Option Nat
 | .move (.tmp j)=>some j
 | .nilCheck (.tmp j)=>some j
 | .fieldAddr _ (.tmp j) _=>some j
 | .indexAddr _ (.tmp j) _=>some j
 | _=>none
def b66:List Oper->Nat->Option Nat
 | [],_=>none
 | o::l,i=>match o.dst with
  | some d=>match B8 d i with|true=>L9 o.op|false=>b66 l i
  | none=>b66 l i
def b67 (dsts:List (Option Nat)) (ops:List Oper) (k:Nat):Nat->Nat->Option (List (Nat×Nat))
 | 0,_=>none
 | f+1,i=>match inD dsts i with
  | false=>match B8 i k with|true=>none|false=>some [(i,k)]
  | true=>match b66 ops i with
   | some j=>match b67 dsts ops k f j with|some l=>some ((i,k)::l)|none=>none
   | none=>none
def b2l (dsts:List (Option Nat)) (ops:List Oper) (i:Nat):List Nat->List (Nat×Nat)
 | []=>[]
 | k::ks=>match b67 dsts ops k 8 i with
  | some l=>l++b2l dsts ops i ks
  | none=>b2l dsts ops i ks
def b68 (dsts:List (Option Nat)) (ops:List Oper) (ks:List Nat):List Nat->List (Nat×Nat)
 | []=>[]
 | i::l=>b2l dsts ops i ks++b68 dsts ops ks l
def N8 (ops:List Oper):List (Nat×Nat):=match a6n (a6T (l8 ops)) ops with
 | []=>[]
 | k::ks=>b68 (l8 ops) ops (k::ks) (a6n a99 ops)
def b36 (prs:List (Nat×Nat)) (o:Oper):Bool:=match o.dst with
 | none=>true
 | some d=>prs.all λp=>a1O (B8 d p.2) && (a1O (B8 d p.1) || match L9 o.op with|some j=>prs.contains (j,p.2)|none=>false)
def E5:V->V->Bool
 | .ptr j _,.ptr m _=>a1O (B8 j m)
 | .el j _ _ _,.el m _ _ _=>a1O (B8 j m)
 | .own j,.el m _ _ _=>a1O (B8 j m)
 | .bs j _,.ptr m _=>a1O (B8 j m)
 | _,_=>true
def b0H:List (Nat×Nat)->List V->Bool
 | [],_=>true
 | (i,k)::l,t=>match E5 (m8 t i) (m8 t k) with|true=>b0H l t|false=>false
def a1X (o:Oper):List Nat:=(o.after.toList.filter λe=>Region.binds .any e).map (·.on)
def G0:List Oper->List (List Nat)->List (List Nat)
 | [],acc=>acc
 | o::l,acc=>G0 l (acc++[(a1X o).flatMap λj=>j::acc.getD j []])
def a5U (ops:List Oper) (i:Nat):Bool :=
 let an:=G0 ops []
 (List.range ops.length).all λj=>Nat.beq j i || (Nat.blt j i && (an.getD i []).contains j) || (Nat.blt i j && (an.getD j []).contains i)
def emL:List V->Bool
 | []=>false
 | .em::_=>true
 | _::l=>emL l
def emA:List V->Bool
 | []=>false
 | .em::_=>true
 | .ag cs::l=>match emL cs with|true=>true|false=>emA l
 | _::l=>emA l
def emB (b:Bool) (vs:List V):Bool:=match b with|true=>emA vs|false=>false
def a4B (b:Bool) (s:S) (x:Operand) (args:List Operand):Option (Nat×List V):=match fnV (s.get x) with
 | some (f,ks)=>match emB b (I6 s.get args) with
  | true=>some (f,a1S (I6 s.get args) (a63 ks))
  | false=>match a0A s.o (a1S (I6 s.get args) (a63 ks)) with
   | some _=>none
   | none=>some (f,a1S (I6 s.get args) (a63 ks))
 | none=>none
def a5w:Op->Bool
 | .move _=>true
 | .assign _=>true
 | .pick _ _ _=>true
 | .fieldAddr _ _ _=>true
 | .field _ _ _=>true
 | .index _ _ _=>true
 | .binOp _ _ _ _ _=>true
 | .unOp _ _ _=>true
 | .convert _ _ _=>true
 | .build _ _=>true
 | .extract _ _=>true
 | .makeFunc _ _ _=>true
 | .nilCheck _=>true
 | _=>false
def tmps:List Operand->List Nat
 | []=>[]
 | .tmp t::l=>t::tmps l
 | _::l=>tmps l
def looks (dsts:List (Option Nat)) (o:Oper):List Nat:=(match o.guard with
 | some (j,_)=>match getD dsts j with|some d=>[d]|none=>[]
 | none=>[])++tmps o.op.operands.toList
def K7 (d:Option Nat) (l:List Nat):Bool:=match d with|some x=>!l.contains x|none=>true
def a0Z (dsts:List (Option Nat)):Oper->Option (List Nat)
 | ⟨_,.load _ (.tmp k),_,_,_,none⟩=>match inD dsts k with|true=>none|false=>some [k]
 | o=>match a5w o.op with|true=>some []|false=>none
def a6o:Op->Bool
 | .call ⟨.value _,_,_⟩=>true
 | _=>false
def N9 (dsts:List (Option Nat)) (an:List (List Nat)) (i:Nat) (oi:Oper):Nat->List Oper->Option (List Nat)
 | _,[]=>some []
 | j,o::l=>match Nat.beq j i with
  | true=>N9 dsts an i oi (j+1) l
  | false=>match Nat.blt j i with
   | true=>match (an.getD i []).contains j with
    | true=>N9 dsts an i oi (j+1) l
    | false=>match K7 o.dst (looks dsts oi) && K7 oi.dst (looks dsts o) && (o.dst.isNone || o.dst != oi.dst) with
     | true=>match a0Z dsts o with
      | some ks=>match N9 dsts an i oi (j+1) l with|some ms=>some (ks++ms)|none=>none
      | none=>none
     | false=>none
   | false=>match (an.getD j []).contains i with
    | true=>N9 dsts an i oi (j+1) l
    | false=>none
def a1Y (all:List Oper) (i:Nat):Option (List Nat):=match G8 1 (K3 i all) with
 | some [oi]=>match a6o oi.op && oi.guard.isNone with
  | true=>N9 (l8 all) (G0 all []) i oi 0 all
  | false=>none
 | _=>none
def a81 (all:List Oper) (i:Nat):Bool:=match a5U all i with
 | true=>true
 | false=>match a1Y all i with|some _=>true|none=>false
def stepD (a:Ar) (all:List Oper) (i:Nat) (s:S) (dst:Option Nat) (K:S->Prop):Op->Prop
 | .call ⟨.value x,args,ts⟩=>match a4B (a81 all i) s x args.toList with
  | some (f,vs)=>match a5U all i with
   | true=>a.callo f vs s (λv s'=>K (s'.put dst v))
   | false=>match a1Y all i with
    | some l=>a.callx f vs l s (λv s'=>K (s'.put dst v))
    | none=>step a false s dst K (.call ⟨.value x,args,ts⟩)
  | none=>step a false s dst K (.call ⟨.value x,args,ts⟩)
 | op=>step a false s dst K op
def K8 (a:Ar) (dsts:List (Option Nat)) (all:List Oper) (i:Nat):Oper->S->(S->Prop)->Prop
 | ⟨dst,op,_,_,_,none⟩,s,K=>stepD a all i s dst K op
 | ⟨dst,op,_,_,_,some (j,b)⟩,s,K=>guard s dsts j fun
  | some c=>match bEq c b with
   | true=>stepD a all i s dst K op
   | false=>K (s.put dst U7)
  | none=>K (s.put dst U7)
def a6j (a:Ar) (dsts:List (Option Nat)) (all:List Oper):Nat->List Oper->S->(S->Prop)->Prop
 | _,[],s,K=>K s
 | i,o::l,s,K=>K8 a dsts all i o s (λs=>a6j a dsts all (i+1) l s K)
def b97:Op->Bool
 | .alloc _=>true
 | .buildSlice _ (_+1) _=>true
 | _=>false
def a9A:Bool->List Oper->Bool
 | _,[]=>false
 | c,o::l=>match b97 o.op with
  | true=>match c with|true=>true|false=>a9A c l
  | false=>match c with|true=>a9A true l|false=>a9A (a6o o.op) l
def a6U (an:List (List Nat)) (al:Oper->Bool) (cl:Oper->Bool) (ops:List Oper):Bool :=
 (List.range ops.length).any λj=>match ops[j]? with
  | some oj=>al oj && (List.range j).any λi=>match ops[i]? with
   | some oi=>cl oi && !((an.getD j []).contains i)
   | none=>false
  | none=>false
def c0f (dsts:List (Option Nat)):Oper->Bool
 | ⟨_,.store _ (.tmp k) _,_,_,_,none⟩=>inD dsts k
 | _=>false
def b69:Oper->Bool
 | ⟨_,.load _ _,_,_,_,none⟩=>true
 | _=>false
def c0g (f:Oper->Bool):List Oper->Bool
 | []=>false
 | o::l=>match f o with|true=>true|false=>c0g f l
def b98 (ops:List Oper):Bool:=match c0g (c0f (l8 ops)) ops with
 | false=>false
 | true=>match c0g b69 ops with
  | false=>false
  | true=>match a6U (G0 ops []) (c0f (l8 ops)) b69 ops with
   | true=>true
   | false=>a6U (G0 ops []) b69 (c0f (l8 ops)) ops
def b83 (ops:List Oper):Bool:=match a9A false ops with
 | false=>b98 ops
 | true=>match a6U (G0 ops []) (λo=>b97 o.op) (λo=>a6o o.op) ops with
  | true=>true
  | false=>b98 ops
def w5 (a:Ar):Code->S->(X->S->Prop)->Prop
 | .skip,s,K=>K .normal s
 | .region _ ops d,s,K=>match d with
  | false=>a0z a (l8 ops.toList) ops.toList s (λs=>K .normal s)
  | true=>match orB (b92 s.o) (b83 ops.toList) with
   | true=>a.reg ops s (λs=>K .normal s)
   | false=>match b0H (N8 ops.toList) s.t with
    | true=>a6j a (l8 ops.toList) ops.toList 0 ops.toList s (λs=>K .normal s)
    | false=>False
 | .seq c d,s,K=>w5 a c s (λx s=>b04 (λs=>a.next (λs=>w5 a d s K) s) K x s)
 | .cond c d e,s,K=>match s.get c with
  | .d (.sc (.bool b))=>match b with
   | true=>w5 a d s K
   | false=>w5 a e s K
  | _=>False
 | .block id c,s,K=>w5 a c s (λx s=>a1v id K x s)
 | .exit i,s,K=>K (.exit i) s
 | .ret,s,K=>K .ret s
 | .loop c,s,K=>a.loop c (λs K=>w5 a c s K) s K
 | _,_,_=>False
def b37 (P:Program) (ops:List Oper):Bool:=ops.all λo=>U9 P o.op
section
variable {I0:Nat->Nat->Prop} {X:Nat->Prop} {w0:W0} {I:Nat->Nat->Prop} {g:Nat->Value} {s:S} {a:Act} {w:World}
def a2D (n:Nat) (g:Nat->Value):Nat->Value:=λk=>if k<n then g k else .nilFunc
theorem a0f {g':Nat->Value} {n:Nat} (hg:∀k,k<n->g' k=g k) {v:Value} {x:V} (h:AtV I w g v x) (hl:a2p n x=true):AtV I w g' v x:=by
 cases h with
 | d h=>exact .d h
 | ag us cs h1 h2=>cases hl
 | tu us cs h1 h2=>cases hl
 | em=>exact .em
 | own k A m cap h=>exact .own k A m cap ((congrArg gv (hg k (by simpa [a2p,c32] using hl))).trans h)
 | ptr k off b h=>exact .ptr k off b ((hg k (by simpa [a2p,c32] using hl)).trans h)
 | cl f us ks hu h =>
  rw[a2p] at hl
  exact .cl f us ks hu λi u k hi hk=>by
   obtain⟨h1,b,h2⟩:=h i u k hi hk;have h3:=hg k (a92 hl hk);exact⟨h1.trans h3.symm,b,h3.trans h2⟩
 | el k i sz off b m cap h=>exact .el k i sz off b m cap ((hg k (by simpa [a2p,c32] using hl)).trans h)
 | ro b o off us cs h1 h2 h3=>exact .ro b o off us cs h1 h2 h3
 | mp k b h=>exact .mp k b ((hg k (by simpa [a2p,c32] using hl)).trans h)
 | bs k n' b cap h hn=>exact .bs k n' b cap ((hg k (by simpa [a2p,c32] using hl)).trans h) hn
 | jk v=>exact .jk v
theorem a6p {g':Nat->Value} {n:Nat} (hg:∀k,k<n->g' k=g k):∀ {cs:List V} {us:List Value},f9 I w g us cs->a68 n cs=true->f9 I w g' us cs
 | [],us,h,_=>by rw[h.unnil];exact .nil I w g'
 | c::cs,us,h,hl=>by
  obtain⟨u,us',rfl,h1,h2⟩:=h.uncons;rw[a68] at hl
  split at hl
  ·rename_i hc;exact .cons (a0f hg h1 hc) (a6p hg h2 hl)
  ·cases hl
theorem b38 {g':Nat->Value} {n:Nat} (hg:∀k,k<n->g' k=g k) {v:Value} {x:V} (h:AtV I w g v x) (hl:b9U n x=true):AtV I w g' v x:=by
 cases x with
 | ag cs=>obtain⟨us,rfl,h2⟩:=h.unag;exact a00 (a6p hg h2 hl)
 | tu cs =>
  cases cs with
  | nil =>
   obtain⟨us,rfl,h2⟩:=h.untu;rw[h2.unnil];exact a0S (.nil I w g')
  | cons c cs=>cases hl
 | d x=>exact a0f hg h hl
 | em=>exact a0f hg h hl
 | own k=>exact a0f hg h hl
 | ptr k off=>exact a0f hg h hl
 | cl f ks=>exact a0f hg h hl
 | el k i sz off=>exact a0f hg h hl
 | ro cs off=>exact a0f hg h hl
 | mp k=>exact a0f hg h hl
 | bs k n'=>exact a0f hg h hl
 | jk=>exact .jk _
theorem a9B {g':Nat->Value} {n:Nat} (hg:∀k,k<n->g' k=g k):∀ {cs:List V} {us:List Value},f9 I w g us cs->a91 n cs=true->f9 I w g' us cs
 | [],us,h,_=>by rw[h.unnil];exact .nil I w g'
 | c::cs,us,h,hl=>by
  obtain⟨u,us',rfl,h1,h2⟩:=h.uncons;rw[a91] at hl
  split at hl
  ·rename_i hc;exact .cons (b38 hg h1 hc) (a9B hg h2 hl)
  ·cases hl
theorem a4C:∀ {l m:List V} {us:List Value},f9 I w g us l->a5R l m->f9 I w g us m
 | [],[],us,h,_=>h
 | [],_::_,us,h,hw=>by cases hw
 | x::l,[],us,h,hw=>by cases hw
 | x::l,y::m,us,h,hw=>by
  obtain⟨u,us',rfl,h1,h2⟩:=h.uncons
  by_cases hy:y=.jk
  ·subst hy;exact .cons (.jk _) (a4C h2 hw)
  ·have hw':x=y/\a5R l m:=by
    cases y <;> first|exact absurd rfl hy|exact hw
   exact .cons (hw'.1 ▸ h1) (a4C h2 hw'.2)
theorem b39:∀ {l m:List Nat},b4R l m=true->∀j∈l,j∈m
 | [],m,_,j,hj=>by simp at hj
 | k::l,m,h,j,hj=>by
  rw[b4R] at h
  split at h
  ·rename_i hk
   rcases c2C.1 hj with rfl|hj
   ·exact a3o.1 hk
   ·exact b39 h j hj
  ·cases h
theorem a82:∀ {l m:List O},a3C l m->m.length<=l.length/\∀(k:Nat) (o':O),m[k]?=some o'->o'=O.dead\/(∃cs ds,l[k]?=some (.box cs)/\o'=.box ds/\a5R cs ds)\/(∃ks js,l[k]?=some (.kl ks)/\o'=.kl js/\b4R ks js=true)\/(l[k]?=some o'/\(∀cs,o'≠.box cs)/\∀ks,o'≠.kl ks)
 | l,[],_=>⟨c3d _,λk o' h=>by simp at h⟩
 | [],y::m,h=>by cases y <;> cases h
 | x::l,y::m,h=>by
  have key:a3C l m/\(y=.dead\/(∃cs ds,x=.box cs/\y=.box ds/\a5R cs ds)\/(∃ks js,x=.kl ks/\y=.kl js/\b4R ks js=true)\/(x=y/\(∀cs,y≠.box cs)/\∀ks,y≠.kl ks)):=by
   cases y with
   | dead=>cases x <;> exact⟨h,.inl rfl⟩
   | box ds=>cases x <;> first|exact⟨h.2,.inr (.inl ⟨_,_,rfl,rfl,h.1⟩)⟩|cases h
   | kl js=>cases x <;> first|exact⟨h.2,.inr (.inr (.inl ⟨_,_,rfl,rfl,h.1⟩))⟩|cases h
   | row z e r =>
    cases x with
    | row z2 e2 r2 =>
     obtain⟨⟨rfl,rfl,rfl⟩,h2⟩:=h;exact⟨h2,.inr (.inr (.inr ⟨rfl,by simp,by simp⟩))⟩
    | _=>exact h.elim
   | mp kt es =>
    cases x with
    | mp kt2 es2 =>
     obtain⟨⟨rfl,rfl⟩,h2⟩:=h;exact⟨h2,.inr (.inr (.inr ⟨rfl,by simp,by simp⟩))⟩
    | _=>exact h.elim
   | it P =>
    cases x with
    | it P2 =>
     obtain⟨rfl,h2⟩:=h;exact⟨h2,.inr (.inr (.inr ⟨rfl,by simp,by simp⟩))⟩
    | _=>exact h.elim
   | ob T vs =>
    cases x with
    | ob T2 vs2 =>
     obtain⟨⟨rfl,rfl⟩,h2⟩:=h;exact⟨h2,.inr (.inr (.inr ⟨rfl,by simp,by simp⟩))⟩
    | _=>exact h.elim
  obtain⟨h1,h2⟩:=a82 key.1;refine⟨by simp;exact h1,λk o' hk=>?_⟩;cases k with
  | zero =>
   simp at hk
   subst hk
   rcases key.2 with h|⟨cs,ds,rfl,h4,h5⟩|⟨ks,js,rfl,h4,h5⟩|⟨rfl,h4⟩
   ·exact .inl h
   ·exact .inr (.inl ⟨cs,ds,rfl,h4,h5⟩)
   ·exact .inr (.inr (.inl ⟨ks,js,rfl,h4,h5⟩))
   ·exact .inr (.inr (.inr ⟨rfl,h4⟩))
  | succ k=>simpa using h2 k o' (by simpa using hk)
theorem RelI.weak (h:RelI I0 X w0 I g s a w) {s':S} (hn:w0.n<=s'.o.length) (hw:weak s s'):RelI I0 X w0 I (a2D s'.o.length g) s' a w:=by
 obtain⟨h1,h2,h3,h4⟩:=hw;obtain⟨hlen,hobj⟩:=a82 h2;rw[m7] at h3 h4;have hg:∀k,k<s'.o.length->a2D s'.o.length g k=g k:=λk hk=>c2E hk
 refine⟨h.im,h.lt,h.fr,h.kp,hn,λk hk hr=>(hg k (by omega)).trans (h.st k hk hr),λk o ho=>?_,λj k b hj hk hbj hbk=>?_,λk hk=>c2H (by omega),a9B hg (a4C h.tmp h1) h3,h.dfr⟩
 ·have hk:k<s'.o.length:=(c25.1 ho).1
  rcases hobj k o ho with rfl|⟨cs,ds,h5,rfl,h6⟩|⟨ks,js,h5,rfl,h6⟩|⟨h5,hnb,hnk⟩
  ·exact True.intro
  ·obtain⟨b,us,t,e1,e2,e3,e4⟩:=h.obj k _ h5;exact⟨b,us,t,(hg k hk).trans e1,e2,a6p hg (a4C e3 h6) (a40 h4 ho),e4⟩
  ·obtain⟨us,e1,e2,e3⟩:=h.obj k _ h5;refine⟨us,(hg k hk).trans e1,e2,λj u hu=>?_⟩;have hj:=(c2I.1 hu).1
   rcases e3 j u hu with e4|e4|e4
   ·exact .inl e4
   ·exact .inr (.inl ((hg j (by omega)).trans e4))
   ·exact .inr (.inr (b39 h6 j e4))
  ·cases o with
   | dead=>exact True.intro
   | box cs=>exact absurd rfl (hnb cs)
   | kl ks=>exact absurd rfl (hnk ks)
   | row z e r =>
    obtain⟨us,e1,e2,e3,e4⟩:=h.obj k _ h5;exact⟨us,by rw[hg k hk];exact e1,e2,e3,by rw[hg k hk];exact e4⟩
   | mp kt es =>
    obtain⟨b,l,c,e1,e2⟩:=h.obj k _ h5;exact⟨b,l,c,(hg k hk).trans e1,e2⟩
   | ob T vs =>
    obtain⟨b,e1,e2⟩:=h.obj k _ h5;exact⟨b,(hg k hk).trans e1,e2⟩
   | it P =>
    obtain⟨A,n,cap,F,e1,e2⟩:=h.obj k _ h5;exact⟨A,n,cap,F,(hg k hk).trans e1,e2⟩
 ·have live':∀j,A1 s' j->j<s'.o.length/\A1 s j:=λj ⟨o,ho,hd⟩=>by
   refine⟨(c25.1 ho).1,?_⟩
   rcases hobj j o ho with rfl|⟨cs,ds,h5,_,_⟩|⟨ks,js,h5,_,_⟩|⟨h5,_⟩
   ·exact absurd rfl hd
   ·exact⟨_,h5,by simp⟩
   ·exact⟨_,h5,by simp⟩
   ·exact⟨_,h5,hd⟩
  obtain⟨hj1,hj2⟩:=live' j hj;obtain⟨hk1,hk2⟩:=live' k hk;rw[hg j hj1] at hbj;rw[hg k hk1] at hbk;exact h.dis j k b hj2 hk2 hbj hbk
theorem U8.weak (h:U8 I0 X w0 s a w) {s':S} (hn:w0.n<=s'.o.length) (hw:s=s'\/weak s s'):U8 I0 X w0 s' a w:=by
 obtain⟨I,g,h⟩:=h
 rcases hw with rfl|hw
 ·exact⟨I,g,h⟩
 ·exact⟨I,_,h.weak hn hw⟩
theorem b0I:∀(l:List Oper) (j:Nat) (d:Nat),getD (l8 l) j=some d->(l[j]?).bind (·.dst)=some d
 | [],j,d,h=>by cases h
 | o::l,0,d,h=>by simpa [l8,getD] using h
 | o::l,j+1,d,h=>by rw[l8,getD] at h;simpa using b0I l j d h
theorem a6V (h:U8 I0 X w0 s a w) {ops:Array Oper} {j:Nat} {K:Option Bool->Prop} (hK:guard s (l8 ops.toList) j K):∃c,yielded ops a.tmps j=c/\K c:=by
 obtain⟨I,g,h⟩:=h;unfold guard at hK
 split at hK <;> try exact hK.elim
 rename_i d hd;have hdst:=b0I _ _ _ hd;rw[c3w] at hdst
 have tmp:∀x,m8 s.t d=x->x≠.jk->∃v,a.tmps[d]?=some v/\AtV I w g v x:=λx hx hj=>by
  have h1:=Q0 hx hj;have hlt:d<a.tmps.toList.length:=by rw[h.tmp.1];exact(c25.1 h1).1
  exact⟨a.tmps.toList[d],by rw[<-c3w];exact c28 hlt,h.tmp.2 d _ _ (c28 hlt) h1⟩
 split at hK <;> try exact hK.elim
 ·rename_i c hc;obtain⟨v,h1,h2⟩:=tmp _ hc (by simp);obtain rfl:=h2.sc;exact⟨some c,by simp[yielded,hdst,h1],hK⟩
 ·rename_i hc;obtain⟨v,h1,h2⟩:=tmp _ hc (by simp);obtain⟨us,rfl,h3⟩:=h2.untu;rw[h3.unnil] at h1;exact⟨none,by simp[yielded,hdst,h1],hK⟩
theorem b84 {ro:Option Nat} {n:Nat} {P:Program} {f:FuncId} {args:Array Value} {w:World} {R:Ending->World->Prop} (h:Calls P f args w R):CallsIn (FW ro) n P f args w R:=callsIn_wide.2 h
theorem b0J {ro:Option Nat} {n:Nat} {P:Program} {o:Oper} {a:Act} {w:World} {next:Act->World->Prop} {Q:Exit->Act->World->Prop} (hd:∀c,o.op≠.defer c) (h:o.wp P a w next Q):o.wpIn (FW ro) n P a w next Q:=by
 refine⟨λ_ _=>trivial,?_⟩;rw[Oper.semAt_eq _ _ _ hd];unfold Oper.wp at h;generalize (execOp a.eval o).run P w=r at h ⊢;cases r with
 | ok x w' =>
  cases x with
  | enter f args=>exact⟨λh=>(by cases h),b84 h⟩
  | row f args=>exact⟨λh=>(by cases h),λc cs _=>let ⟨v,w2,h1,h2⟩:=h c cs;⟨v,w2,h1,stepsIn_wide.2 h2⟩⟩
  | value v=>exact h
  | skip=>exact h
  | defer d=>exact h
  | _=>exact h.elim
 | halt x w'=>cases x <;> exact h
theorem a2E {P:Program} {op:Op} (h:U9 P op=true) (c:Call) (hc:op=.defer c):False:=by subst hc;cases h
theorem b0K (h:U8 I0 X w0 s a w) {o:Oper} {Q:Exit->Act->World->Prop} {K:S->Prop} (hop:U9 Tryd.prog o.op=true) (hK:step1 a7 s o.dst K o.op):o.wp Tryd.prog a w (λa' w'=>∃s',U8 I0 X w0 s' a' w'/\K s') Q:=by
 unfold step1 at hK
 split at hK
 ·exact hK I0 X w0 a w o Q rfl rfl hop h
 ·obtain⟨I,g,h⟩:=h;exact b35 h hop hK
theorem b2m {ro:Option Nat} {n:Nat} {ops:Array Oper} {Q:Exit->Act->World->Prop} {K:S->Prop} (hQ:∀s' a' w',U8 I0 X w0 s' a' w'->K s'->Q .normal a' w'):∀(l:List Oper) (s:S) (a:Act) (w:World),(∀o∈l,U9 Tryd.prog o.op=true)->U8 I0 X w0 s a w->a0z a7 (l8 ops.toList) l s K->wpListIn (FW ro) n Tryd.prog ops Q l a w
 | [],s,a,w,_,h,hK=>hQ _ _ _ h hK
 | ⟨dst,op,type,pos,after,gd⟩::l,s,a,w,hok,h,hK=>by
  have hop:=hok _ (c27 ..);have hrest:∀a' w',(∃s',U8 I0 X w0 s' a' w'/\a0z a7 (l8 ops.toList) l s' K)->wpListIn (FW ro) n Tryd.prog ops Q l a' w':=λa' w' ⟨s',h1,h2⟩=>b2m hQ l s' a' w' (λo ho=>hok o (c26 _ ho)) h1 h2
  have hstep:∀ {Kw:Act->World->Prop},(∀a w,wpListIn (FW ro) n Tryd.prog ops Q l a w->Kw a w)->step1 a7 s dst (λs=>a0z a7 (l8 ops.toList) l s K) op->Oper.wpIn (FW ro) n Tryd.prog ⟨dst,op,type,pos,after,gd⟩ a w Kw Q:=λhKw hs=>by
   obtain⟨I,g,h⟩:=h;exact b0J (λc hc=>a2E hop c hc) (Oper.wp_mono (λa' w' hx=>hKw _ _ (hrest a' w' hx)) (b0K ⟨I,g,h⟩ (o:=⟨dst,op,type,pos,after,gd⟩) (Q:=Q) hop hs))
  have hskip:a0z a7 (l8 ops.toList) l (s.put dst U7) K->wpListIn (FW ro) n Tryd.prog ops Q l (a.put dst undef) w:=λhs=>by
   obtain⟨I,g,h⟩:=h;exact b2m hQ l _ _ w (λo ho=>hok o (c26 _ ho)) ⟨I,g,h.put (x:=U7) (.tu [] [] rfl (λi u c hu _=>by simp at hu)) dst⟩ hs
  refine wpListIn_step λKw hKw=>?_
  cases gd with
  | none =>
   rw[c2E (by rfl)];rw[a0z] at hK;exact hstep hKw hK
  | some jb =>
   obtain⟨j,b⟩:=jb;rw[a0z] at hK;obtain⟨c,hc,hK⟩:=a6V h hK;have hw:Region.wanted ⟨dst,op,type,pos,after,some (j,b)⟩ (yielded ops a.tmps)=(c == some b):=by simp[Region.wanted,hc]
   rw[hw];cases c with
   | none =>
    rw[c2H (by simp)];exact⟨λ_ _=>trivial,hKw _ _ (hskip hK)⟩
   | some c =>
    simp only at hK
    split at hK
    ·rename_i hb;rw[a01] at hb;rw[c2E (by simpa using hb)];exact hstep hKw hK
    ·rename_i hb;rw[a01] at hb;rw[c2H (by simpa using hb)];exact⟨λ_ _=>trivial,hKw _ _ (hskip hK)⟩
end
end
end Go.Proofs.YtlofmibkljoapaaDoor.Vm
end
