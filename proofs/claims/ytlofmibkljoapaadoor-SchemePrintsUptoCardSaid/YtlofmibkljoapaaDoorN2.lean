/- Part 2 of the proof. Conditions: none. -/
import Derived.Test.YtlofmibkljoapaaDoorN1
import Derived.Lib.ConvBytes
import Derived.Laws.BytesString
import Derived.Deep.LoopGhost
import Derived.Sort.LoopGhostIn
import Derived.OrdersIn
import Derived.TacticsIn
import Derived.RangeFuncCalls
import Derived.Test.YtlofmibkljoapaaDoorN0
set_option linter.all false
set_option linter.unusedVariables false
set_option linter.unusedSimpArgs false
section
namespace Go.Proofs.YtlofmibkljoapaaDoor.Vm
open Go.RowKit
set_option maxRecDepth 100000
set_option maxHeartbeats 4000000
section
section
variable {I0:Nat->Nat->Prop} {X:Nat->Prop} {w0:W0} {I:Nat->Nat->Prop} {g:Nat->Value} {s:S} {a:Act} {w:World}
theorem a2c (b:Bool):a1S b=!b:=by cases b <;> rfl
theorem b6V (a b:Bool):orB a b=(a || b):=by cases a <;> rfl
theorem c0P (h:RelI I0 X w0 I g s a w) {K:V->Prop} {op:BinOp} {t:Nat} (ox oy:Operand) {x y:Value} (hK:a10 a7 op x y K):Yld I0 X w0 g s a w (do eqGuard op t ox oy x y;binOp op t x y) K:=by
  unfold a10 at hK
  split at hK <;> try exact hK.elim
  · rename_i K k m k' n
    split at hK
    · rename_i hb
      have key:∀r,a6I op k m k' n=some r->(do eqGuard op t ox oy (.int k m) (.int k' n);binOp op t (.int k m) (.int k' n)).run Tryd.prog w=.ok (.int k r) w:=by
        intro r hr;unfold a6I at hr
        split at hr
        · cases n with
          | ofNat n =>
            injection hr with hr;subst hr;have h0:¬(Int.ofNat n<0):=by simp
            simp only[eqGuard,binOp,Op.shift,c3G h0];rfl
          | negSucc n=>cases hr
        · cases n with
          | ofNat n =>
            injection hr with hr;subst hr;have h0:¬(Int.ofNat n<0):=by simp
            simp only[eqGuard,binOp,Op.shift,c3G h0];rfl
          | negSucc n=>cases hr
        all_goals first
          | (exfalso;cases hr;done)
          | (split at hr
             · rename_i hk
               obtain rfl:=a59 hk;injection hr with hr;subst hr;simp only[eqGuard,binOp,Op.intBits,ne_eq,not_true,c6a];rfl
             · cases hr)
      rw[show a7.bits op k m k' n=a6I op k m k' n from rfl] at hK;cases hr:a6I op k m k' n with
      | none=>rw[hr] at hK;exact hK.elim
      | some r =>
        rw[hr] at hK;exact yld h (key r hr) (ati k _) hK
    split at hK <;> try exact hK.elim
    rename_i hk;obtain rfl:=a59 hk;unfold binInt at hK
    split at hK <;> try exact hK.elim
    · exact yld h (by simp[eqGuard,binOp,Op.intArith];rfl) (ati k _) hK
    · exact yld h (by simp[eqGuard,binOp,Op.intArith];rfl) (ati k _) hK
    · exact yld h (by simp[eqGuard,binOp,Op.intArith];rfl) (ati k _) hK
    · have h0:n≠0:=hK.1
      exact yld h (by simp[eqGuard,binOp,Op.intDiv,h0];rfl) (ati k _) hK.2
    · have h0:n≠0:=hK.1
      exact yld h (by simp[eqGuard,binOp,Op.intDiv,h0];rfl) (ati k _) hK.2
    · exact yld h (by simp[eqGuard,binOp,Op.intCmp];rfl) (atb _) hK
    · refine yld h ?_ (atb _) hK
      simp[eqGuard,binOp,Op.intCmp,a2c]
      rfl
    · exact yld h (by simp[eqGuard,binOp,Op.intCmp];rfl) (atb _) hK
    · exact yld h (by simp[eqGuard,binOp,Op.intCmp];rfl) (atb _) hK
    · exact yld h (by simp[eqGuard,binOp,Op.intCmp];rfl) (atb _) hK
    · exact yld h (by simp[eqGuard,binOp,Op.intCmp];rfl) (atb _) hK
  · rename_i K b c
    unfold binStr at hK
    split at hK <;> try exact hK.elim
    · have h0:b.size+c.size<=4611686018427387904:=hK.1
      have h1:¬(((b.size+c.size:Nat):Int)>9223372036854775807):=by omega
      refine yld h ?_ (ats _) hK.2;simp only[eqGuard,binOp,Op.stringOp,IntKind.max_i64];rw[c3G h1];rfl
    all_goals
      refine yld h ?_ (atb _) hK;simp only[eqGuard,binOp,Op.stringOp,a2c,b6V];rfl
theorem a5B (h:RelI I0 X w0 I g s a w) {K:V->Prop} {op:BinOp} {t:Nat} (ox oy:Operand) {x y:Value} {b:Bool} (h0:∀p q,x≠.int p q) (h1:∀p q,y≠.int p q) (hx:(∃p,x=.pointer p)\/(∃p,x=.bool p)\/∃A n c,x=.slice A n c) (he:(Op.equal t x y).run Tryd.prog w=.ok b w) (hK:a23 b K op):Yld I0 X w0 g s a w (do eqGuard op t ox oy x y;binOp op t x y) K:=by
 have hg:(eqGuard op t ox oy x y).run Tryd.prog w=.ok () w:=by
  unfold eqGuard;cases op <;> rcases hx with⟨p,rfl⟩|⟨p,rfl⟩|⟨A,n,c,rfl⟩ <;> rfl
 cases op <;> try exact hK.elim
 ·refine yld h ?_ (atb _) hK;simp only[Sem.run_bind,hg,Result.andThen_ok]
  rcases hx with⟨p,rfl⟩|⟨p,rfl⟩|⟨A,n,c,rfl⟩ <;> cases y <;> first|exact absurd rfl (h1 _ _)|simp[binOp,he]
 ·refine yld h ?_ (atb _) hK;simp only[Sem.run_bind,hg,Result.andThen_ok]
  rcases hx with⟨p,rfl⟩|⟨p,rfl⟩|⟨A,n,c,rfl⟩ <;> cases y <;> first|exact absurd rfl (h1 _ _)|simp[binOp,he,a2c]
theorem c1Z (h:RelI I0 X w0 I g s a w) {K:V->Prop} {op:BinOp} {t:Nat} (ox oy:Operand) {x y:Array Value} {b:Bool} (hq:Tryd.prog.eqGuardType Tryd.prog.depth t=false) (he:(Op.equal t (.agg x) (.agg y)).run Tryd.prog w=.ok b w) (hK:a23 b K op):Yld I0 X w0 g s a w (do eqGuard op t ox oy (.agg x) (.agg y);binOp op t (.agg x) (.agg y)) K:=by
 generalize hP:Tryd.prog=P at *
 have hg:∀op,(op=.eql\/op=.neq)->(eqGuard op t ox oy (.agg x) (.agg y)).run P w=.ok () w:=by
  intro op ho
  rcases ho with rfl|rfl <;> simp[eqGuard,hq]
 subst hP;cases op <;> try exact hK.elim
 ·refine yld h ?_ (atb _) hK;simp only[Sem.run_bind,hg _ (.inl rfl),Result.andThen_ok];simp only[binOp,Sem.run_bind,he,Result.andThen_ok,Sem.run_pure]
 ·refine yld h ?_ (atb _) hK;simp only[Sem.run_bind,hg _ (.inr rfl),Result.andThen_ok];simp only[binOp,Sem.run_bind,he,Result.andThen_ok,Sem.run_pure,a2c]
theorem b53 {t:Nat} {ds:List D} (h:a2w t (.ag ds)=true):(ty t).kind=.struct/\Tryd.prog.eqGuardType Tryd.prog.depth t=false:=by
 rw[a2w] at h
 split at h
 ·rename_i hst
  split at h
  ·rename_i hs;have hm:=b3C t (a7a hs);unfold b2x at hm;simp only[c3D,c5G] at hm;exact⟨hst,hm.1.2⟩
  ·cases h
 ·cases h
theorem eqp {t e:Nat} (hu:Tryd.prog.underlying t=some (.pointer e)) (p:Option Addr):(Op.equal t (.pointer p) (.pointer none)).run Tryd.prog w=.ok p.isNone w/\(Op.equal t (.pointer none) (.pointer p)).run Tryd.prog w=.ok p.isNone w:=by
 have key:∀d,(Op.equalIn (d+1) t (.pointer p) (.pointer none)).run Tryd.prog w=.ok p.isNone w/\(Op.equalIn (d+1) t (.pointer none) (.pointer p)).run Tryd.prog w=.ok p.isNone w:=λd=>by
  cases p <;> simp[Op.equalIn,run_underlying hu]
 exact key 9999
theorem eqb {t:Nat} (hu:Tryd.prog.underlying t=some .bool) (b c:Bool):(Op.equal t (.bool b) (.bool c)).run Tryd.prog w=.ok (b == c) w:=by
 have key:∀d,(Op.equalIn (d+1) t (.bool b) (.bool c)).run Tryd.prog w=.ok (b == c) w:=λd=>by
  simp[Op.equalIn,run_underlying hu]
 exact key 9999
theorem eqs {t e:Nat} (hu:Tryd.prog.underlying t=some (.slice e)) (A:Option Addr) (n c:Nat):(Op.equal t (.slice A n c) (.slice none 0 0)).run Tryd.prog w=.ok A.isNone w:=by
 have key:∀d,(Op.equalIn (d+1) t (.slice A n c) (.slice none 0 0)).run Tryd.prog w=.ok A.isNone w:=λd=>by
  cases A <;> simp[Op.equalIn,run_underlying hu]
 exact key 9999
theorem a89 {u:Value} {x:V} (hu:AtV I w g u x) (h:a91 x=true):u=.pointer none:=by
 unfold a91 at h
 split at h
 ·exact hu.sc
 ·cases h
theorem c0Q (h:RelI I0 X w0 I g s a w) {K:V->Prop} {op:BinOp} {t:Nat} (ht:c0L t=true) (ox oy:Operand) {u v:Value} {x y:V} (hu:AtV I w g u x) (hv:AtV I w g v y) (hK:a8x a7 op t x y K):Yld I0 X w0 g s a w (do eqGuard op t ox oy u v;binOp op t u v) K:=by
 unfold c0L at ht;unfold a8x at hK
 split at hK <;> try exact hK.elim
 ·rename_i x y;obtain rfl:=hu.sc;obtain rfl:=hv.sc
  split at hK
  ·rename_i hk;rw[hk] at ht;obtain⟨e,hun⟩:=b20 ht hk
   split at hK <;> try exact hK.elim
   exact a5B h ox oy (by simp) (by simp) (.inl ⟨_,rfl⟩) (eqp hun none).1 hK
  ·rename_i hk;rw[hk] at ht;have hun:=b3L ht hk
   split at hK <;> try exact hK.elim
   rename_i b c;rw[a08] at hK;exact a5B h ox oy (by simp) (by simp) (.inr (.inl ⟨_,rfl⟩)) (eqb hun b c) hK
  ·exact c0P h ox oy hK
 ·rename_i y K k off
  split at hK <;> try exact hK.elim
  rename_i hk;rw[hk] at ht;obtain⟨e,hun⟩:=b20 ht hk
  split at hK <;> try exact hK.elim
  rename_i hn;obtain rfl:=a89 hv hn;obtain⟨b,_,rfl⟩:=hu.unptr;exact a5B h ox oy (by simp) (by simp) (.inl ⟨_,rfl⟩) (eqp hun _).1 hK
 ·rename_i x K k off _ _
  split at hK <;> try exact hK.elim
  rename_i hk;rw[hk] at ht;obtain⟨e,hun⟩:=b20 ht hk
  split at hK <;> try exact hK.elim
  rename_i hn;obtain rfl:=a89 hu hn;obtain⟨b,_,rfl⟩:=hv.unptr;exact a5B h ox oy (by simp) (by simp) (.inl ⟨_,rfl⟩) (eqp hun _).2 hK
 ·rename_i K sz rows
  split at hK <;> try exact hK.elim
  rename_i hk;have hk:(ty t).kind=.slice:=by revert hk;cases (ty t).kind <;> intro hk <;> first|rfl|cases hk
  rw[hk] at ht;have ht:(d4 t && (ty t).elem.isSome)=true:=ht;rw[c3D] at ht;obtain⟨e,he⟩:=c56.1 ht.2;have hun:=F5 ht.1 he;rw[hv.unem];cases hu with
  | d hd =>
   obtain⟨A,cap,rfl,hcap,hr⟩:=hd.slice;have hne:rows≠[]:=λe=>hK.1 (by rw[e];rfl)
   rcases hr with hr|⟨b,off,us,rfl,_⟩
   ·exact absurd hr hne
   ·exact a5B h ox oy (by simp) (by simp) (.inr (.inr ⟨_,_,_,rfl⟩)) (eqs hun _ _ _) hK.2
 ·rename_i K
  split at hK <;> try exact hK.elim
  rename_i hk;have hk:(ty t).kind=.slice:=by revert hk;cases (ty t).kind <;> intro hk <;> first|rfl|cases hk
  rw[hk] at ht;have ht:(d4 t && (ty t).elem.isSome)=true:=ht;rw[c3D] at ht;obtain⟨e,he⟩:=c56.1 ht.2;have hun:=F5 ht.1 he;rw[hv.unem,hu.unem];exact a5B h ox oy (by simp) (by simp) (.inr (.inr ⟨_,_,_,rfl⟩)) (eqs hun _ _ _) hK
 ·rename_i K xs ys
  split at hK <;> try exact hK.elim
  rename_i ds es h1 h2
  split at hK <;> try exact hK.elim
  rename_i hk1
  split at hK <;> try exact hK.elim
  rename_i hk2;obtain⟨us,rfl,hus⟩:=hu.unag;obtain⟨vs,rfl,hvs⟩:=hv.unag;have a1:=a3w (r:=.ag ds) ⟨us,rfl,a7b hus h1⟩ hk1;have a2:=a3w (r:=.ag es) ⟨vs,rfl,a7b hvs h2⟩ hk2;obtain⟨hst,hg⟩:=b53 hk1;rw[hst] at ht;have ht:(d4 t && (ty t).fty.all d4)=true:=ht;rw[c3D] at ht;have hkey:=(a9I (w:=w) ht.1 (λu hu=>c4g.1 ht.2 u hu) hk1 hk2).eq;rw[<-a1,<-a2] at hkey;exact c1Z h ox oy hg hkey hK
theorem c2a (h:RelI I0 X w0 I g s a w) {K:V->Prop} {op:UnOp} {u:Value} {x:V} (hu:AtV I w g u x) (hK:unV a7 op x K):Yld I0 X w0 g s a w (Op.unary op u) K:=by
 unfold unV at hK
 split at hK <;> try exact hK.elim
 ·obtain rfl:=hu.sc;refine yld h ?_ (atb _) hK;simp only[Op.unary,a2c];rfl
 ·obtain rfl:=hu.sc;exact yld h (by simp only[Op.unary,Op.intArith];rfl) (ati _ _) hK
theorem b6W {us:List Value} {r:List D} {c:UInt8} (h:s9 I w us r) (hc:b3F r=some c):∃n:Int,us=[.int .u8 n]/\c=UInt8.ofNat n.toNat:=by
 unfold b3F at hc
 split at hc
 ·rename_i v;obtain⟨u,us',rfl,h1,h2⟩:=h.uncons;have h3:us'=[]:=c3P h2.1;subst h3;cases h1 with
  | sc _ hv =>
  unfold c0n at hc
  split at hc
  ·rename_i k n
   split at hc
   ·rename_i hk;obtain rfl:=a59 hk;injection hc with hc;exact⟨n,rfl,hc.symm⟩
   ·cases hc
  ·cases hc
 ·cases hc
theorem a8A:∀ {rows:List (List D)} {us:List Value} {l:List UInt8},s9 I w us rows.flatten->a5w rows=some l->∃ns:List Int,us=ns.map (Value.int .u8)/\l=ns.map (λn=>UInt8.ofNat n.toNat)
 | [],us,l,h,hb=>by
  injection hb with hb;subst hb;exact⟨[],c3P h.1,rfl⟩
 | r::rows,us,l,h,hb=>by
  rw[a5w] at hb
  split at hb <;> try cases hb
  rename_i c hc
  split at hb <;> try cases hb
  rename_i t ht;rw[c4x] at h
  have h1:s9 I w (us.take r.length) r:=by
   have:=h.take r.length;rw[List.take_left] at this;exact this
  have h2:s9 I w (us.drop r.length) rows.flatten:=by
   have:=h.drop r.length;rw[List.drop_left] at this;exact this
  obtain⟨n,e1,e2⟩:=b6W h1 hc;obtain⟨ns,e3,e4⟩:=a8A h2 ht;exact⟨n::ns,by rw[<-c4D r.length us,e1,e3];rfl,by rw[e2,e4];rfl⟩
theorem a7c:∀(ns:List Int) (s:ByteArray),ns.foldl (λr n=>r.push (UInt8.ofNat n.toNat)) s=⟨⟨s.data.toList++ns.map (λn=>UInt8.ofNat n.toNat)⟩⟩
 | [],s=>by simp
 | n::ns,s=>by
  rw[c4P,a7c ns]
  simp[ByteArray.push]
theorem a5C {t:Nat} (h:a50 t=true):∃e,(ty t).elem=some e/\d4 e=true/\(ty e).kind=.int .u8:=by
 unfold a50 at h
 split at h
 ·rename_i e he;rw[c3D] at h;obtain⟨h1,h2⟩:=h
  split at h2
  ·rename_i k hk;obtain rfl:=a59 h2;exact⟨e,he,h1,hk⟩
  ·cases h2
 ·cases h
theorem a8B {t u:Nat} (h:a52 t u=true) (h1:a40 (ty t).kind=true) (h2:(ty u).kind=.str):a50 t=true:=by
 unfold a52 at h;rw[h1,h2,c3D] at h
 simpa [a1S,b0H] using h.1
theorem b54 {t u:Nat} (h:a52 t u=true) (h1:b0H (ty t).kind=true) (h2:(ty u).kind=.slice):a50 u=true:=by
 unfold a52 at h;rw[h1,h2,c3D] at h
 simpa [a1S,a40] using h.2
theorem b9j (h:RelI I0 X w0 I g s a w) {K:V->Prop} {t0 t:Nat} (ht0:d4 t0=true) (ht:d4 t=true) (hcv:a52 t0 t=true) {u:Value} {x:V} (hu:AtV I w g u x) (hK:a6h a7 K (ty t0).kind (ty t).kind x):Yld I0 X w0 g s a w (convert t0 t u) K:=by
 have h0:∃d,Tryd.prog.underlying t0=some d:=by
  have:=(a3H t0 ht0).agg;cases hd:Tryd.prog.underlying t0 with
  | none=>rw[hd] at this;cases this
  | some d=>exact⟨d,rfl⟩
 obtain⟨d0,hd0⟩:=h0;unfold a6h at hK
 split at hK <;> try exact hK.elim
 ·rename_i k hkind;unfold b3G at hK
  split at hK <;> try exact hK.elim
  obtain rfl:=hu.sc;exact yld h (by simp[convert,run_underlying hd0,run_underlying (a6M ht hkind),Conv.intToInt];rfl) (ati _ _) hK
 ·rename_i hkind;unfold b3H at hK
  split at hK <;> try exact hK.elim
  ·obtain rfl:=hu.sc;exact yld h (by simp[convert,run_underlying hd0,run_underlying (a4a ht hkind)]) (ats _) hK
  ·rename_i sz rows
   split at hK <;> try exact hK.elim
   rename_i hsl;obtain⟨e,he,hke,hkk⟩:=a5C (a8B hcv hsl hkind);unfold c0H at hK
   split at hK <;> try exact hK.elim
   rename_i b hb;replace hb:a64 rows=some b:=hb;unfold a64 at hb
   split at hb <;> try cases hb
   rename_i l hl;cases hu with
   | d hd =>
    obtain⟨A,cap,rfl,hcap,hrows⟩:=hd.slice
    have key:(Conv.bytesToString (.slice A rows.length cap)).run Tryd.prog w=.ok (.string ⟨⟨l⟩⟩) w:=by
     rcases hrows with rfl|⟨b,off,us,rfl,hI,hr,hlen,hcell,hat⟩
     ·have hl:l=[]:=(Option.some.inj hl).symm;subst hl;cases A with
      | none=>rfl
      | some p =>
       have h1:=run_bytesToString (P:=Tryd.prog) w p 0 cap [] (run_loadCells_list (P:=Tryd.prog) w p [] (λj v hv=>by simp at hv));rw[a7c] at h1;exact h1
     ·obtain⟨ns,e1,e2⟩:=a8A hat hl
      have hl1:us.length=rows.length:=by
       rw[hlen]
       have:∀ {rows:List (List D)} {l:List UInt8},a5w rows=some l->∀r∈rows,r.length=1:=by
        intro rows
        induction rows with
        | nil=>intro l _ r hr;cases hr
        | cons r0 rows ih =>
         intro l hb r hr;rw[a5w] at hb
         split at hb <;> try cases hb
         rename_i c hc
         split at hb <;> try cases hb
         rename_i t ht
         rcases c3F.1 hr with rfl|hr
         ·unfold b3F at hc
          split at hc
          ·rfl
          ·cases hc
         ·exact ih ht r hr
       cases rows with
       | nil=>simp
       | cons r rows=>rw[<-hr r (c38 ..),this hl r (c38 ..),Nat.mul_one]
      have h1:=run_bytesToString (P:=Tryd.prog) w ⟨b,off,none⟩ rows.length cap ns (by rw[<-hl1,<-e1];exact run_loadCells_list (P:=Tryd.prog) w ⟨b,off,none⟩ us (λj v hv=>by rw[Addr.add_lit];exact hcell j v hv));rw[a7c] at h1;rw[h1,e2];rfl
    exact yld h (by rw[run_convert_bytes_string w t0 t e A rows.length cap (F5 ht0 he) (a6M hke hkk) (a4a ht hkind)];exact key) (ats _) hK
  ·split at hK <;> try exact hK.elim
   rename_i hsl;obtain⟨e,he,hke,hkk⟩:=a5C (a8B hcv hsl hkind);rw[hu.unem];exact yld h (by rw[run_convert_bytes_string w t0 t e none 0 0 (F5 ht0 he) (a6M hke hkk) (a4a ht hkind)];rfl) (ats _) hK
 ·rename_i hkind;unfold b3I at hK
  split at hK <;> try exact hK.elim
  rename_i b
  split at hK <;> try exact hK.elim
  rename_i hst;obtain⟨e,he,hke,hkk⟩:=a5C (b54 hcv hst hkind);obtain rfl:=hu.sc;have hrun:=Lib.run_convert_string_bytes (P:=Tryd.prog) w t0 t e b hd0 (F5 ht he) (a6M hke hkk);have hb:Below w.heap.size w (Lib.bytesWorld w e b):=⟨rfl,rfl,rfl,by rw[Lib.bytesWorld_size];omega,λk hk=>Lib.bytesWorld_at_old w e b k hk⟩;have hk:o6 I w (Lib.bytesWorld w e b):=λb k hbk i _=>hb.cell (p:=⟨b,i,none⟩) (h.lt b k hbk).1
  have h4:=h.grow hb (I':=λb k=>I b k\/b=w.heap.size) (λ_ _ h=>.inl h) (λb k hk=>by
   rcases hk with hk|rfl
   ·exact .inl hk
   ·exact .inr ⟨c3A _,by rw[Lib.bytesWorld_size];omega⟩)
  have hlen:(a6J b).length=b.size:=by unfold a6J;rw[c4h];rfl
  refine⟨_,_,_,_,hrun,h4,.d ?_,hK⟩;rw[show b.size=(a6J b).length from hlen.symm];refine .sl _ 0 _ _ (a6J b) (b.data.toList.map λc=>.int .u8 (c.toNat:Int)) (by rw[hlen];exact grownCap_ge ..) ⟨_,c3A _,.inr rfl⟩ (λr hr=>?_) ?_ (λi u hu=>?_) (λi u d hu hd=>?_)
  ·unfold a6J at hr;obtain⟨c,_,rfl⟩:=c4o.1 hr;rfl
  ·rw[c4h,hlen,Nat.mul_one];rfl
  ·rw[c4z];have hi:i<b.size:=by have:=(c35.1 hu).1;rw[c4h] at this;exact this
   rw[Lib.bytesWorld_cell w e b i hi];rw[c4j] at hu;rw[c3T];cases hg:b.data.toList[i]? with
   | none=>rw[hg] at hu;cases hu
   | some c=>rw[hg] at hu;have hu:=Option.some.inj hu;rw[<-hu];rfl
  ·have key:∀l:List UInt8,∀i:Nat,∀u d,(l.map λc=>Value.int .u8 (c.toNat:Int))[i]?=some u->(l.map λc=>[D.sc (.int .u8 (c.toNat:Int))]).flatten[i]?=some d->AtD (λb k=>I b k\/b=w.heap.size) (Lib.bytesWorld w e b) u d:=by
    intro l
    induction l with
    | nil=>intro i u d hu;simp at hu
    | cons c l ih =>
     intro i u d hu hd;cases i with
     | zero=>simp at hu hd;subst hu;subst hd;exact .sc _ rfl
     | succ i=>exact ih i u d (by simpa using hu) (by simpa using hd)
   exact key _ i u d hu hd
theorem b24 (h:RelI I0 X w0 I g s a w) {K:V->Prop} {i:Nat} {u:Value} {x:V} (hu:AtV I w g u x) (hK:a27 K i x):Yld I0 X w0 g s a w (Instr.extract u i) K:=by
 unfold a27 at hK
 split at hK <;> try exact hK.elim
 rename_i vs
 split at hK <;> try exact hK.elim
 rename_i v hv;have hi:=a1B hv;obtain⟨us,rfl,h1⟩:=hu.untu;have hlt:i<us.length:=by rw[h1.1];exact(c35.1 hi).1
 refine yld h (v:=us[i]) ?_ (h1.2 i _ _ (c39 hlt) hi) hK
 simp[Instr.extract,hlt]
theorem c0R (h:RelI I0 X w0 I g s a w) {K:V->Prop} {t ty':Nat} (ht:d4 t=true) {u:Value} {x:V} (hu:AtV I w g u x) (hK:lenV a7 s.o K (ty t).kind x):Yld I0 X w0 g s a w (Builtin.len_ #[t] ty' #[u]) K:=by
 have hsl:(ty t).kind=.slice->∃e,Tryd.prog.underlying t=some (.slice e):=λhk=>by
  have h2:=(a3H t ht).under;unfold a0R at h2;rw[hk] at h2;obtain⟨h3,h4⟩:=h2;obtain⟨e,he⟩:=c56.1 h4;rw[he] at h3;exact⟨e,h3⟩
 have key:∀A n cap,(∃e,Tryd.prog.underlying t=some (.slice e))->(Builtin.len_ #[t] ty' #[.slice A n cap]).run Tryd.prog w=.ok (.int .i64 n) w:=λA n cap ⟨e,he⟩=>by
  simp[Builtin.len_,run_underlying he,goInt]
 unfold lenV at hK
 split at hK <;> try exact hK.elim
 rotate_left
 ·rename_i hk;unfold b5u at hK
  split at hK <;> try exact hK.elim
  rename_i b;obtain rfl:=hu.sc;exact yld h (by simp[Builtin.len_,run_underlying (a4a ht hk),goInt];rfl) (ati _ _) hK
 rename_i hk;unfold b5t at hK
 split at hK <;> try exact hK.elim
 ·rename_i sz rows;cases hu with
  | d h1 =>
   obtain⟨A,cap,rfl,-⟩:=h1.slice;exact yld h (key _ _ _ (hsl hk)) (ati _ _) hK
 ·cases hu;exact yld h (key _ _ _ (hsl hk)) (ati _ _) hK
 ·rename_i k
  split at hK <;> try exact hK.elim
  rename_i z e rows ho;obtain⟨us,h1,_⟩:=h.obj k _ (j8 ho (by simp));obtain⟨A,cap,hg⟩:=N0 h1;cases hu with
  | own k A' n cap' hg' =>
   rw[a2D h1,hg] at hg';injection hg' with e1 e2 e3;subst e1;subst e2;subst e3;exact yld h (key _ _ _ (hsl hk)) (ati _ _) hK
 ·obtain⟨b,cap,hg,rfl,hle⟩:=hu.unbs;exact yld h (key _ _ _ (hsl hk)) (ati _ _) hK
theorem b9k (h:RelI I0 X w0 I g s a w) {K:V->Prop} {t:Nat} (ht:d4 t=true) (htv:(ty t).kind=.array->∀e,(ty t).val=some e->d4 e=true) {u v:Value} {x i:V} (hu:AtV I w g u x) (hv:AtV I w g v i) (hK:a26 a7 K t x i):Yld I0 X w0 g s a w (Instr.index t u v) K:=by
 unfold a26 at hK
 split at hK <;> try exact hK.elim
 ·rename_i cs k n
  split at hK <;> try exact hK.elim
  rename_i hkd
  split at hK <;> try exact hK.elim
  rename_i e he
  split at hK <;> try exact hK.elim
  rename_i j hj
  split at hK <;> try exact hK.elim
  rename_i l hl
  split at hK <;> try exact hK.elim
  rename_i y hy;have hun:=a6N ht hkd he;have hke:=htv hkd e he;obtain rfl:=hv.sc;obtain⟨us,rfl,h7⟩:=hu.unag
  have hn:(0<=n/\n<((ty t).alen:Int))/\n.toNat=j:=by
   simp only[a7] at hj
   split at hj
   ·rename_i h1;injection hj with hj;exact⟨h1,hj⟩
   ·cases hj
  obtain⟨hn,rfl⟩:=hn;rw[a0t] at hl;obtain⟨e1,he1⟩:=a0u hl;have hul:j2 I w g ((us.drop (n.toNat * (ty e).sz)).take (ty e).sz) l:=by rw[e1];exact(h7.drop _).take _
  obtain⟨hx,hone⟩:=a98 hul hy;refine yld h ?_ hx hK;simp only[Instr.index,asIntOf,Sem.run_bind,Sem.run_pure,run_underlying hun,Result.andThen_ok,c3E hn,part,I7 hke,a97 hke];cases hag:(ty e).agg with
  | true =>
   have hsz:=I7 hke w
   simp[hsz]
  | false =>
   have hlen:=hone hag;simp only[c5l,c6a]
   have hlt:n.toNat * (ty e).sz<us.length:=by
    rw[c3Z,c4L] at hlen;omega
   have:us.toArray[n.toNat * (ty e).sz]?=some (((us.drop (n.toNat * (ty e).sz)).take (ty e).sz).getD 0 undef):=by
    simp only[c5m,c3T,c4l,c4k,c4F];have hsz:0<(ty e).sz:=by rw[c3Z] at hlen;omega
    rw[c3E hsz,c39 hlt];rfl
   rw[this];rfl
 rename_i b k n
 split at hK <;> try exact hK.elim
 rename_i hk
 split at hK <;> try exact hK.elim
 rename_i c hc;obtain rfl:=hu.sc;obtain rfl:=hv.sc
 have hs:(if 0<=n then b[n.toNat]? else none).map (λc=>(c.toNat:Int))=some c:=by
  simp only[a7] at hc
  split at hc
  ·rw[c3E (by assumption)];exact hc
  ·cases hc
 cases hx:(if 0<=n then b[n.toNat]? else none) with
 | none=>rw[hx] at hs;cases hs
 | some y =>
  rw[hx] at hs;injection hs with hs;subst hs;exact yld h (by simp[Instr.index,asIntOf,run_underlying (a4a ht hk),hx]) (ati _ _) hK
theorem a4E:∀(vs:List Value) (j:Nat) (cs:Array Value) (off:Nat),off+j+vs.length<=cs.size ->
  ((vs.zipIdx j).foldl (λcs (c,j)=>cs.setIfInBounds (off+j) c) cs).toList=cs.toList.take (off+j)++vs++cs.toList.drop (off+j+vs.length)
 | [],j,cs,off,_=>by simp
 | v::vs,j,cs,off,hl=>by
  have hl':off+j<cs.size:=by simp at hl;omega
  rw[List.zipIdx_cons,c4P,a4E vs (j+1) _ off (by simp at hl ⊢;omega)];simp only[Array.toList_setIfInBounds,<-c4K,c3C];have hlt:off+j<cs.toList.length:=by simpa using hl'
  rw[List.set_eq_take_append_cons_drop,c3E hlt];have h1:(cs.toList.take (off+j)).length=off+j:=by rw[c3Z];omega
  have h2:(cs.toList.take (off+j)++v::cs.toList.drop (off+j+1)).take (off+j+1)=cs.toList.take (off+j)++[v]:=by
   rw[List.take_append,h1,c4i (by omega),show off+j+1 - (off+j)=1 by omega]
   simp
  have h3:(cs.toList.take (off+j)++v::cs.toList.drop (off+j+1)).drop (off+j+1+vs.length)=cs.toList.drop (off+j+(vs.length+1)):=by
   rw[List.drop_append,h1,c5j (by omega),show off+j+1+vs.length - (off+j)=vs.length+1 by omega,c4t,List.drop_succ_cons,List.drop_drop]
   congr 1
   omega
  rw[h2,h3]
  simp[c4K]
theorem a4F (h:RelI I0 X w0 I g s a w) {place:List (Nat×Nat)}:∀ {ps:List (Nat×Operand)} {l r:List V} {us:List Value},j2 I w g us l->W5 s.get place ps l=some r ->
  ∃us',Instr.fill (λi=>place[i]?) us.toArray (ps.map λp=>(p.1,a.eval p.2))=some us'.toArray/\j2 I w g us' r
 | [],l,r,us,hu,hf=>by
  rw[W5] at hf;injection hf with hf;subst hf;exact⟨us,rfl,hu⟩
 | (i,x)::ps,l,r,us,hu,hf=>by
  rw[W5] at hf
  split at hf <;> try cases hf
  rename_i off sz hp
  split at hf <;> try cases hf
  rename_i cs hcs
  split at hf <;> try cases hf
  rename_i hsz
  split at hf <;> try cases hf
  rename_i l' hl';rw[y9,y8] at hsz;obtain⟨vs,hv1,hv2,hv3⟩:=a4C (h.get x) hcs;obtain⟨e,hle⟩:=Z6 hl';have hlen:off+vs.length<=us.length:=by rw[hv2.1,hu.1];exact hle
  obtain⟨us',h1,h2⟩:=a4F h (hu.splice hv2 hl') hf;refine⟨us',?_,h2⟩;rw[c3Y,Instr.fill];simp only[a1B hp];have hsize:(a.eval x).cells.size=sz:=by rw[hv1];simp[hv2.1,hsz]
  rw[c3G (by
   rw[hsize];have:vs.length=sz:=by rw[hv2.1,hsz]
   simp
   omega)]
  rw[<-h1]
  congr 1
  apply c4Y
  have:=a4E vs 0 us.toArray off (by simpa using hlen);simp only[c4F] at this;rw[hv1]
  simpa using this
theorem a6l {α:Type} (o:α->Nat) (sz:α->Option Nat):∀(l:List α) (m:List (Nat×Nat)),l.map (λf=>(o f,sz f))=m.map (λx=>(x.1,some x.2))->l.mapM (λf=>(sz f).map λi=>(o f,i))=some m
 | [],[],_=>rfl
 | [],_::_,h=>by cases h
 | _::_,[],h=>by cases h
 | f::l,(y1,y2)::m,h=>by
  rw[c3Y,c3Y] at h;injection h with h1 h2;injection h1 with h1 h3;simp only at h3 h1;rw[c5H,a6l o sz l m h2,h3,h1];rfl
theorem a7d {sz:Nat}:∀ {n off i:Nat} {p:Nat×Nat},(places sz n off)[i]?=some p->p=(off+i * sz,sz)
 | 0,off,i,p,h=>by simp[places] at h
 | n+1,off,0,p,h=>by simp[places] at h;simp[<-h]
 | n+1,off,i+1,p,h=>by
  have:=a7d (n:=n) (off:=off+sz) (i:=i) (p:=p) (by simpa [places] using h);rw[this,c4R]
  congr 1
  omega
theorem a8C {place place':Nat->Option (Nat×Nat)} (hp:∀i p,place i=some p->place' i=some p):∀ {ps:List (Nat×Value)} {l r:Array Value},Instr.fill place l ps=some r->Instr.fill place' l ps=some r
 | [],l,r,h=>h
 | (i,v)::ps,l,r,h=>by
  rw[Instr.fill] at h ⊢
  split at h
  ·cases h
  ·rename_i off size hpi;rw[hp _ _ hpi];simp only
   split at h
   ·cases h
   ·rename_i hc;rw[c3G hc];exact a8C hp h
theorem b6X (h:RelI I0 X w0 I g s a w) {K:V->Prop} {t:Nat} (ht:d4 t=true) (htv:(ty t).kind=.array->∀e,(ty t).val=some e->d4 e=true) (ps:Array (Nat×Operand)) (hK:a1W s.get K t ps.toList):Yld I0 X w0 g s a w (Instr.build t (ps.map λp=>(p.1,a.eval p.2))) K:=by
 unfold a1W at hK
 split at hK <;> try exact hK.elim
 ·rename_i hk
  split at hK <;> try exact hK.elim
  rename_i l hl;obtain⟨us',h1,h2⟩:=a4F h (H9 (ty t).zero) hl;refine yld h ?_ (a07 h2) hK;refine run_build w t _ _ ?_;obtain⟨x,z,hi,hs,hz,hc,_⟩:=a0G ht;obtain⟨fs,hu,hf1,hf2⟩:=a5y ht hk
  have hpl:fs.toList.mapM (λf=>(Tryd.prog.info? f.type).map λi=>(f.offset,i.size))=some (ty t).flds:=by
   have hm:=a6l _ _ _ _ hf1;simp only[Option.map_map] at hm;exact hm
  simp only[Program.built,hi,hu,hz,hpl,hc];rw[c5u]
  simpa using h1
 ·rename_i hk
  split at hK <;> try exact hK.elim
  rename_i e he
  split at hK <;> try exact hK.elim
  rename_i l hl;obtain⟨us',h1,h2⟩:=a4F h (H9 (ty t).zero) hl;refine yld h ?_ (a07 h2) hK;obtain⟨z,hz,hzc⟩:=a43 ht w;have hun:=a6N ht hk he
  have hpl:∀i p,(places (ty e).sz (ty t).alen 0)[i]?=some p->p=(i * (ty e).sz,(ty e).sz):=λi p hp=>by
   have:=a7d hp
   simpa using this
  have h3:=a8C (place':=λi=>some (i * (ty e).sz,(ty e).sz)) (λi p hp=>by rw[hpl i p hp]) h1;rw[<-hzc] at h3;simp only[Instr.build,Sem.run_bind,hz,Result.andThen_ok,run_underlying hun,I7 (htv hk e he),c5u];rw[h3];rfl
theorem b6Y (h:RelI I0 X w0 I g s a w) {K:V->Prop} {mx:Bool} {ts:Array TypeId} {ty':Nat} {us:List Value} {xs:List V} (hu:j2 I w g us xs) (hK:a93 a7 K mx xs):Yld I0 X w0 g s a w (if mx=true then Builtin.max_ ts ty' us.toArray else Builtin.min_ ts ty' us.toArray) K:=by
 unfold a93 at hK
 split at hK <;> try exact hK.elim
 rename_i k m k' n;obtain⟨u,us,rfl,h1,h2⟩:=hu.uncons;obtain⟨v,us,rfl,h3,h4⟩:=h2.uncons;rw[h4.unnil];obtain rfl:=h1.sc;obtain rfl:=h3.sc
 split at hK <;> try exact hK.elim
 cases mx with
 | true =>
  refine yld h ?_ (ati k _) hK;simp only[Builtin.max_,c5O,List.foldlM,Builtin.max2,a7]
  by_cases hlt:m<n
  ·simp[hlt]
  ·simp[hlt]
 | false =>
  refine yld h ?_ (ati k _) hK;simp only[Builtin.min_,c5l,c6a,List.foldlM,Builtin.min2,a7]
  by_cases hlt:n<m
  ·simp[hlt]
  ·simp[hlt]
theorem c2b (h:RelI I0 X w0 I g s a w) {K:V->Prop} {v:Value} {x:V} (hv:AtV I w g v x) (hK:nnV K x):K x/\(∀f,v≠.func (.method f) #[] #[])/\((∃a,v=.pointer (some a))\/∃f cs,v=.func (.func f) #[] cs):=by
 unfold nnV at hK
 split at hK <;> try exact hK.elim
 ·obtain⟨b,_,rfl⟩:=hv.unptr;exact⟨hK,by simp,.inl ⟨_,rfl⟩⟩
 ·cases hv;exact⟨hK,by simp,.inr ⟨_,_,rfl⟩⟩
 ·cases hv;exact⟨hK,by simp,.inl ⟨_,rfl⟩⟩
 ·cases hv;exact⟨hK,by simp,.inl ⟨_,rfl⟩⟩
end
end
section
section
variable {I0:Nat->Nat->Prop} {X:Nat->Prop} {w0:W0} {I:Nat->Nat->Prop} {g:Nat->Value} {s:S} {a:Act} {w:World}
theorem a3y {sz:Nat}:∀ {n:Nat} {l:List D} {rows:List (List D)},a1V sz n l=some rows->rows.flatten=l/\rows.length=n/\∀r∈rows,r.length=sz
 | 0,[],rows,h=>by rw[a1V] at h;injection h with h;subst h;simp
 | 0,_::_,rows,h=>by rw[a1V] at h;cases h
 | n+1,l,rows,h=>by
  rw[a1V] at h
  split at h <;> try cases h
  rename_i r hr
  split at h <;> try cases h
  rename_i rs hrs;obtain⟨h1,h2,h3⟩:=a3y hrs;obtain⟨h4,h5⟩:=a0u hr;rw[a0t] at h1;refine⟨?_,by simp[h2],λx hx=>?_⟩
  ·rw[c4x,h1,h4];simp
  ·rcases c3F.1 hx with rfl|hx
   ·exact h5
   ·exact h3 x hx
theorem a7e {us:List Value} {z:List V} (hz:j2 I w g us z):∀(n:Nat) {vs:List Value} {acc:List V},j2 I w g vs acc->j2 I w g ((List.replicate n us).flatten++vs) (a24 z n acc)
 | 0,vs,acc,h=>by simpa [a24] using h
 | n+1,vs,acc,h=>by
  rw[a24];have:=a7e hz n (hz.append h);rw[List.replicate_succ',c5s]
  simpa using this
theorem a4d (z:Array Value) (n:Nat):((Array.range (n * z.size)).map λi=>z[i % z.size]!).toList=(List.replicate n z.toList).flatten:=by
 apply c5h
 intro i;have hrl:∀r∈List.replicate n z.toList,r.length=z.size:=λr hr=>by rw[(List.mem_replicate.1 hr).2];simp
 by_cases hi:i<n * z.size
 ·have hz:0<z.size:=by
   rcases c5X z.size with h|h
   ·rw[h,Nat.mul_zero] at hi;omega
   ·exact h
  have hq:i / z.size<n:=Nat.div_lt_of_lt_mul (by rw[Nat.mul_comm];exact hi);have hm:i % z.size<z.size:=Nat.mod_lt _ hz;have e:=L6 hrl (i:=i / z.size) (j:=i % z.size) (r:=z.toList) (by rw[c4N,c3E hq]) hm;rw[Nat.div_add_mod' i z.size] at e;rw[e]
  simp[hi,hm,c4S]
 ·rw[c4u (by simp;omega),c4u (by rw[a0T hrl];simp;omega)]
theorem a2I (h:RelI I0 X w0 I g s a w) {K:V->Prop} {t n:Nat} (ht:d4 t=true) (hte:∀e,(ty t).elem=some e->d4 e=true/\n * (ty e).sz<=16777216) (ps:Array (Nat×Operand)) (hK:C2 s.get s.o K t n ps.toList) :
  ∃e rows us,(ty t).elem=some e/\d4 e=true/\(Instr.buildSlice t n (ps.map λp=>(p.1,a.eval p.2))).run Tryd.prog w=.ok (.slice (some ⟨w.heap.size,0,none⟩) n n) (w.alloc (.cells us.toArray e))/\us.length=n * (ty e).sz/\rows.length=n/\(∀r∈rows,r.length=(ty e).sz)/\s9 I w us rows.flatten/\K (.d (.sl (ty e).sz rows)):=by
 unfold C2 at hK
 split at hK <;> try exact hK.elim
 rename_i e he
 split at hK <;> try exact hK.elim
 rename_i n
 split at hK <;> try exact hK.elim
 rename_i l hl
 split at hK <;> try exact hK.elim
 rename_i ds hds
 split at hK <;> try exact hK.elim
 rename_i rows hrows;obtain⟨hke,hsz⟩:=hte e he;have hun:=F5 ht he;obtain⟨z,hz,hzc⟩:=a43 hke w;obtain⟨_,_,_,_,_,_,hzl,_⟩:=a0G hke;have hz0:=a7e (I:=I) (w:=w) (g:=g) (H9 (ty e).zero) (n+1) (.nil I w g);rw[c3X] at hz0
 have hpl:∀(m off i:Nat) (p:Nat×Nat),(places (ty e).sz m off)[i]?=some p->p=(off+i * (ty e).sz,(ty e).sz):=by
  intro m
  induction m with
  | zero=>intro off i p hp;simp[places] at hp
  | succ m ih =>
   intro off i p hp;cases i with
   | zero=>simp[places] at hp;rw[<-hp];simp
   | succ i =>
    have:=ih (off+(ty e).sz) i p (by simpa [places] using hp);rw[this,c4R];exact Prod.ext (by simp only;omega) rfl
 obtain⟨us',h1,h2⟩:=a4F h hz0 hl
 have hfill:∀(ps:List (Nat×Value)) (cs r:Array Value),Instr.fill (λi=>(places (ty e).sz (n+1) 0)[i]?) cs ps=some r->Instr.fill (λi=>some (i * (ty e).sz,(ty e).sz)) cs ps=some r:=by
  intro ps
  induction ps with
  | nil=>intro cs r hr;exact hr
  | cons p ps ih =>
   intro cs r hr;obtain⟨i,v⟩:=p;rw[Instr.fill] at hr ⊢;cases hp:(places (ty e).sz (n+1) 0)[i]? with
   | none=>rw[hp] at hr;cases hr
   | some q =>
    rw[hp] at hr;have:=hpl _ _ _ _ hp;rw[c4z] at this;subst this;simp only at hr ⊢
    split at hr
    ·cases hr
    ·rename_i hc;rw[c3G hc];exact ih _ _ hr
 have h3:=hfill _ _ _ h1
 have hcell:((Array.range ((n+1) * (ty e).sz)).map λi=>((if (n+1) * (ty e).sz=0 then #[] else z.cells):Array Value)[i % ((if (n+1) * (ty e).sz=0 then #[] else z.cells):Array Value).size]!)=((List.replicate (n+1) (ty e).zero).flatten).toArray:=by
  apply c4Y
  by_cases hs0:(n+1) * (ty e).sz=0
  ·have:(ty e).sz=0:=by rcases Nat.mul_eq_zero.1 hs0 with h|h <;> omega
   rw[this] at hzl;have hnil:(ty e).zero=[]:=c3P hzl;rw[hs0,hnil]
   simp
  ·rw[c3G hs0,hzc];have:=a4d (ty e).zero.toArray (n+1);simp only[c5o,hzl] at this
   simpa [hzl] using this
 have hdat:=a45 h h2 hds;obtain⟨hfl,hrl,hr1⟩:=a3y hrows
 have hrun:(Instr.buildSlice t (n+1) (ps.map λp=>(p.1,a.eval p.2))).run Tryd.prog w=.ok (.slice (some ⟨w.heap.size,0,none⟩) (n+1) (n+1)) (w.alloc (.cells us'.toArray e)):=by
  have hsz':(n+1) * (ty e).sz<=16777216:=hsz;have hbig:¬(n+1) * (ty e).sz>16777216:=by omega
  have hsize:=I7 hke w
  by_cases hs0:(n+1) * (ty e).sz=0
  ·rw[c3E hs0] at hcell;simp only[Instr.buildSlice,Sem.run_bind,run_underlying hun,Result.andThen_ok,hsize,Sem.run_ite,Sem.run_pure];rw[c3G (by omega),c3E hs0];simp only[Result.andThen_ok,hcell,c5u,h3];rfl
  ·rw[c3G hs0] at hcell;simp only[Instr.buildSlice,Sem.run_bind,run_underlying hun,Result.andThen_ok,hsize,Sem.run_ite,Sem.run_pure];rw[c3G (by omega),c3G hs0];simp only[Sem.run_bind,hz,Result.andThen_ok,Sem.run_pure,hcell,c5u,h3];rfl
 exact⟨e,rows,us',he,hke,hrun,by rw[hdat.1,<-hfl,a0T hr1,hrl],hrl,hr1,by rw[hfl];exact hdat,hK⟩
theorem a8z (h:RelI I0 X w0 I g s a w) {K:V->Prop} {t n:Nat} (ht:d4 t=true) (hte:∀e,(ty t).elem=some e->d4 e=true/\n * (ty e).sz<=16777216) (ps:Array (Nat×Operand)) (hK:C2 s.get s.o K t n ps.toList) :
  Yld I0 X w0 g s a w (Instr.buildSlice t n (ps.map λp=>(p.1,a.eval p.2))) K:=by
 obtain⟨e,rows,us',he,hke,hrun,hl,hrl,hr1,hdat,hK⟩:=a2I h ht hte ps hK;have hb:Below w.heap.size w (w.alloc (.cells us'.toArray e)):=(Below.refl _ _).alloc (c3A _) _;have hk:o6 I w (w.alloc (.cells us'.toArray e)):=λb k hbk i _=>hb.cell (p:=⟨b,i,none⟩) (h.lt b k hbk).1
 have h4:=h.grow hb (I':=λb k=>I b k\/b=w.heap.size) (λ_ _ h=>.inl h) (λb k hk=>by
  rcases hk with hk|rfl
  ·exact .inl hk
  ·exact .inr ⟨c3A _,by simp⟩)
 refine⟨_,_,_,_,hrun,h4,.d ?_,hK⟩;rw[<-hrl];refine .sl _ 0 _ _ rows us' (c3A _) ⟨_,c3A _,.inr rfl⟩ hr1 ?_ (λi u hu=>?_) (λi u d hu hd=>?_)
 ·rw[hl,hrl]
 ·rw[c4z,World.cell?_alloc_new]
  simpa using hu
 ·exact(hdat.2 i u d hu hd).mono (λ_ _ h=>.inl h) hk
theorem a7f (h:RelI I0 X w0 I g s a w) {n l:Int} {lo:Option Operand} (hb:a41 n (Q9 s.get lo)=some l):(lo.map a.eval=none/\l=n)\/∃k,lo.map a.eval=some (.int k l):=by
 cases lo with
 | none =>
  simp only[Q9,a41,Option.some.injEq] at hb;exact .inl ⟨rfl,hb.symm⟩
 | some x =>
  simp only[Q9] at hb;have hx:=h.get x;generalize s.get x=y at *;cases y with
  | d z =>
   cases z with
   | sc v =>
    cases v <;> first|(simp[a41] at hb;done)|skip
    rename_i k m;simp only[a41,Option.some.injEq] at hb;subst hb;exact .inr ⟨k,by rw[c4G,hx.sc]⟩
   | sl sz rows=>simp[a41] at hb
  | _=>simp[a41] at hb
theorem a7g (isSlice:Bool) (len cap:Nat) (lo hi:Option Value) (l h:Int) (hlo:(lo=none/\l=0)\/∃k,lo=some (.int k l)) (hhi:(hi=none/\h=len)\/∃k,hi=some (.int k h)) (h0:0<=l) (h1:l<=h) (h2:h<=cap) :
  (Instr.sliceBounds isSlice len cap lo hi none).run Tryd.prog w=.ok (l.toNat,h.toNat,cap) w:=by
 have e1:((h.toNat:Nat):Int)=h:=Int.toNat_of_nonneg (by omega);have e2:0<=h:=by omega
 rcases hlo with⟨rfl,rfl⟩|⟨k,rfl⟩ <;> rcases hhi with⟨rfl,rfl⟩|⟨k',rfl⟩ <;> simp[Instr.sliceBounds,run_sliceBound, *]
theorem b6Z (h:RelI I0 X w0 I g s a w) {K:V->Prop} {t:Nat} (ht:d4 t=true) (hte:∀e,(ty t).elem=some e->d4 e=true) {u:Value} {x:V} {lo hi:Option Operand} (hu:AtV I w g u x) (hK:a25 a7 s.o K t x (Q9 s.get lo) (Q9 s.get hi)) :
  Yld I0 X w0 g s a w (Instr.sliceAt t u (lo.map a.eval) (hi.map a.eval) none) K:=by
 unfold a25 at hK
 split at hK <;> try exact hK.elim
 rename_i l hl;have hlo:=a7f h hl
 split at hK <;> try exact hK.elim
 ·rename_i hk
  split at hK <;> try exact hK.elim
  rename_i b
  split at hK <;> try exact hK.elim
  rename_i hh hhb;have hhi:=a7f h hhb
  split at hK <;> try exact hK.elim
  rename_i c hc;obtain rfl:=hu.sc;have hun:=a4a ht hk;simp only[a7] at hc
  split at hc <;> try cases hc
  rename_i hbd;have hbr:=a7g (w:=w) false b.size b.size _ _ l hh hlo hhi hbd.1 hbd.2.1 hbd.2.2;refine yld h ?_ (ats _) hK
  simp[Instr.sliceAt,Instr.slice,run_underlying hun,hbr]
 ·rename_i hk
  split at hK <;> try exact hK.elim
  rename_i e he
  split at hK <;> try exact hK.elim
  rename_i sz rows hr
  split at hK <;> try exact hK.elim
  rename_i hsz
  split at hK <;> try exact hK.elim
  rename_i hh hhb;have hhi:=a7f h hhb
  split at hK <;> try exact hK.elim
  rename_i rs hrs;obtain⟨h1,h1'⟩:=a9H h hu hr;have h2:=b3Q hsz h1 h1';obtain⟨A,cap,rfl,hcap,h3⟩:=h2.slice;simp only[a7] at hrs
  split at hrs <;> try cases hrs
  rename_i hbd;have hun:=F5 ht he;have hbr:=a7g (w:=w) true rows.length cap _ _ l hh hlo hhi hbd.1 hbd.2.1 (by omega)
  have hlen:((rows.drop l.toNat).take (hh.toNat - l.toNat)).length=hh.toNat - l.toNat:=by
   rw[c3Z,c4L];omega
  refine yld h (v:=sliced A l.toNat hh.toNat cap (ty e).sz) ?_ (.d ?_) hK
  ·simp[Instr.sliceAt,Instr.slice,run_underlying hun,hbr,I7 (hte e he),sliced]
  ·unfold sliced
   by_cases hemp:hh.toNat - l.toNat=0
   ·have:(rows.drop l.toNat).take (hh.toNat - l.toNat)=[]:=by rw[hemp];simp
    rw[this,hemp];exact .nil _ _ _
   ·rcases h3 with rfl|⟨b,off,us,rfl,hI,hrl,hul,hc,hd⟩
    ·simp at hbd;omega
    rw[c3G (by omega)];have hsub:l.toNat * (ty e).sz+(hh.toNat - l.toNat) * (ty e).sz<=rows.length * (ty e).sz:=by rw[<-c5Z];exact c41 _ (by omega)
    have hflat:((rows.drop l.toNat).take (hh.toNat - l.toNat)).flatten=(rows.flatten.drop (l.toNat * (ty e).sz)).take ((hh.toNat - l.toNat) * (ty e).sz):=by
     have e1:rows=rows.take l.toNat++((rows.drop l.toNat).take (hh.toNat - l.toNat)++(rows.drop l.toNat).drop (hh.toNat - l.toNat)):=by rw[c4D,c4D]
     have f1:(rows.take l.toNat).flatten.length=l.toNat * (ty e).sz:=by
      rw[a0T λr hr=>hrl r (c52 hr),c3Z,c57 (by omega)]
     have f2:((rows.drop l.toNat).take (hh.toNat - l.toNat)).flatten.length=(hh.toNat - l.toNat) * (ty e).sz:=by
      rw[a0T λr hr=>hrl r (c5Q (c52 hr)),hlen]
     conv=>rhs;rw[e1]
     rw[c5s,c5s,<-f1,List.drop_left,<-f2,List.take_left]
    have hval:AtD I w (.slice (some ⟨b,off+l.toNat * (ty e).sz,none⟩) ((rows.drop l.toNat).take (hh.toNat - l.toNat)).length (cap - l.toNat)) (.sl (ty e).sz ((rows.drop l.toNat).take (hh.toNat - l.toNat))):=by
     refine .sl b _ _ _ _ ((us.drop (l.toNat * (ty e).sz)).take ((hh.toNat - l.toNat) * (ty e).sz)) (by rw[hlen];omega) (hI.down (by rw[hlen];omega)) (λr hr=>hrl r (c5Q (c52 hr))) ?_ (λi u hu=>?_) (λi u d hu hdd=>?_)
     ·rw[hlen,c3Z,c4L,hul];omega
     ·rw[c4l] at hu
      split at hu
      ·rw[c4k] at hu;rw[c4K];exact hc _ _ hu
      ·cases hu
     ·rw[hflat,c4l] at hdd;rw[c4l] at hu
      split at hu
      ·rename_i hi;rw[c3E hi,c4k] at hdd;rw[c4k] at hu;exact hd.2 _ _ _ hu hdd
      ·cases hu
    rw[hlen] at hval
    simpa [Addr.add_lit] using hval
 
theorem b9l (h:RelI I0 X w0 I g s a w) {K:V->Prop} {c u v:Value} {z x y:V} (hc:AtV I w g c z) (hu:AtV I w g u x) (hv:AtV I w g v y) (hK:b0J K x y z):Yld I0 X w0 g s a w (do pure (if <-asBool c then u else v)) K:=by
 unfold b0J at hK
 split at hK <;> try exact hK.elim
 rename_i b;obtain rfl:=hc.sc;cases b
 ·exact yld h (by simp[asBool]) hv hK
 ·exact yld h (by simp[asBool]) hu hK
end
end
section
section
variable {w:World}
def hit (r:R):List R->List MapEntry->Nat->Option (Nat×Value)
 | k::ks,e::es,i=>match rEq k r with|true=>some (i,e.val)|false=>hit r ks es (i+1)
 | _,_,_=>none
theorem b0W {t:Nat} {d:TypeDesc} {r:R} (hd:Tryd.prog.underlying t=some d):∀ {ks:List R} {es:List MapEntry} (i:Nat),es.map (·.key)=ks.map rVal->(∀k∈ks,KeyOk t r k w)->Instr.findNow d (rVal r) es i=some (hit r ks es i)\/Instr.findNow d (rVal r) es i=none
 | [],[],i,_,_=>.inl rfl
 | [],_::_,i,h,_=>by cases h
 | _::_,[],i,h,_=>by cases h
 | k::ks,e::es,i,h,hk=>by
  rw[c3Y,c3Y] at h;injection h with h1 h2;have h3:=(hk k (c38 ..)).now d hd;have ih:=b0W hd (i+1) h2 λk hm=>hk k (c36 _ hm)
  simp only[Instr.findNow,hit,h1]
  rcases h3 with h3|h3
  ·rw[h3];cases rEq k r with
   | true=>exact .inl rfl
   | false=>exact ih
  ·rw[h3];exact .inr rfl
theorem b0X {t:Nat} {r:R}:∀ {ks:List R} {es:List MapEntry} (i:Nat),es.map (·.key)=ks.map rVal->(∀k∈ks,KeyOk t r k w)->(Instr.findAsking t (rVal r) es i).run Tryd.prog w=.ok (hit r ks es i) w
 | [],[],i,_,_=>rfl
 | [],_::_,i,h,_=>by cases h
 | _::_,[],i,h,_=>by cases h
 | k::ks,e::es,i,h,hk=>by
  rw[c3Y,c3Y] at h;obtain⟨h1,h2⟩:=List.cons.inj h;have ih:=b0X (t:=t) (i+1) h2 λk hm=>hk k (c36 _ hm)
  rw[Instr.findAsking,hit,h1,Sem.run_bind,(hk k (c38 ..)).eq,Result.andThen_ok];cases hr:rEq k r with
  | true=>simp only[c5O,Sem.run_pure]
  | false=>simp only[c5l,c6a];exact ih
theorem a7h {t:Nat} (ht:d4 t=true) {r:R} {ks:List R} {es:List MapEntry} (h:es.map (·.key)=ks.map rVal) (hk:∀k∈ks,KeyOk t r k w):(Instr.findKey t (rVal r) es).run Tryd.prog w=.ok (hit r ks es 0) w:=by
 have hag:=(a3H t ht).agg;cases hu:Tryd.prog.underlying t with
 | none=>rw[hu] at hag;cases hag
 | some d =>
  simp only[Instr.findKey,Sem.run_bind,run_underlying hu,Result.andThen_ok]
  rcases b0W hu 0 h hk with h1|h1
  ·rw[h1];rfl
  ·rw[h1];exact b0X 0 h hk
end
section
variable {I0:Nat->Nat->Prop} {X:Nat->Prop} {w0:W0} {I:Nat->Nat->Prop} {g:Nat->Value} {s:S} {a:Act} {w:World}
theorem b25 {kt:Nat} {r q:R}:∀ {l:List MapEntry} {es:List (R×R)} (i:Nat),a96 I w kt l es ->
  (∃j e p,hit r (es.map (·.1)) l i=some (i+j,e.val)/\l[j]?=some e/\es[j]?=some p/\rEq p.1 r=true/\a11 es r=some p.2/\a05 es r q=es.set j (p.1,q))\/(hit r (es.map (·.1)) l i=none/\a11 es r=none/\a05 es r q=es++[(r,q)])
 | [],[],i,_=>.inr ⟨rfl,rfl,rfl⟩
 | [],_::_,i,h=>by have:=h.1;simp at this
 | _::_,[],i,h=>by have:=h.1;simp at this
 | e::l,(k,v)::es,i,h=>by
  have h':a96 I w kt l es:=⟨by have:=h.1;simpa using this,λj e p he hp=>h.2 (j+1) e p (by simpa using he) (by simpa using hp)⟩;simp only[c3Y,hit,a11,a05];cases hk:rEq k r with
  | true=>exact .inl ⟨0,e,(k,v),rfl,rfl,rfl,hk,rfl,rfl⟩
  | false =>
   rcases b25 (q:=q) (i+1) h' with⟨j,e',p,h1,h2,h3,h4,h5,h6⟩|⟨h1,h2,h3⟩
   ·exact .inl ⟨j+1,e',p,by rw[h1,c4K,Nat.add_comm 1 j],by simpa using h2,by simpa using h3,h4,h5,by rw[h6];rfl⟩
   ·exact .inr ⟨h1,h2,by rw[h3];rfl⟩
theorem b3R {kt:Nat} {l:List MapEntry} {es:List (R×R)} (h:a96 I w kt l es):l.map (·.key)=(es.map (·.1)).map rVal:=by
 refine c5h λi=>?_
 simp only[c4j]
 rcases c4q i l.length with hi|hi
 ·have hi':i<es.length:=by rw[<-h.1];exact hi
  rw[c39 hi,c39 hi'];obtain⟨h1,_,h3⟩:=h.2 i _ _ (c39 hi) (c39 hi');exact congrArg some (a3w h1 h3)
 ·rw[c4u hi,c4u (by rw[<-h.1];exact hi)];rfl
theorem b0Y {kt:Nat} (ht:d4 kt=true) (hf:∀u∈(ty kt).fty,d4 u=true) {r:R} (hr:a2w kt r=true) {l:List MapEntry} {es:List (R×R)} (h:a96 I w kt l es) (w':World):∀k∈es.map (·.1),KeyOk kt r k w':=by
 intro k hk;obtain⟨p,hp,rfl⟩:=c4o.1 hk;obtain⟨i,hi⟩:=c4f.1 hp;have hlt:i<l.length:=by rw[h.1];exact(c35.1 hi).1
 exact a9I ht hf hr (h.2 i _ _ (c39 hlt) hi).2.2
theorem b3S {e:Nat} (he:d4 e=true) {z:V} (hz:a18 (ty e).agg (B6 (ty e).zero)=some z):∃v,(zeroValue e).run Tryd.prog w=.ok v w/\AtV I w g v z:=by
 obtain⟨v,hv,hc⟩:=a43 he w;refine⟨v,hv,?_⟩;have hag:=(a3H e he).zag;obtain⟨x,z',h1,_,h3,_⟩:=a0G he
 have hv':v=z':=by
  simp only[zeroValue,typeInfo,Sem.run_bind,run_program,Result.andThen_ok,h1,h3,Sem.run_pure] at hv;exact(Result.ok.inj hv).1.symm
 rw[h1] at hag;simp only[c4C,h3,c4G,Option.some.injEq] at hag;subst hv';cases hb:(ty e).agg with
 | true =>
  rw[hb] at hag hz;rw[a18] at hz;injection hz with hz;subst hz;cases v <;> first|cases hag|skip
  rename_i us;simp only[Value.cells] at hc;rw[hc];exact a07 (H9 (ty e).zero)
 | false =>
  rw[hb] at hag hz;have hs:v.cells=#[v]:=by cases v <;> first|rfl|cases hag
  rw[hs] at hc
  have hz0:(ty e).zero=[v]:=by
   have:=congrArg Array.toList hc
   simpa using this.symm
  rw[hz0] at hz;have h4:=H9 (I:=I) (w:=w) (g:=g) [v];rw[B6,B6] at hz h4;rw[a18] at hz;injection hz with hz;subst hz;exact h4.2 0 _ _ rfl rfl
theorem a7i (h:RelI I0 X w0 I g s a w) {K:V->Prop} {ok b:Bool} {v:Value} {x:V} {m:Sem Value} (hv:AtV I w g v x) (hm:m.run Tryd.prog w=.ok (if ok=true then .tuple #[v,.bool b] else v) w) (hK:a92 K ok b x):Yld I0 X w0 g s a w m K:=by
 cases ok with
 | true=>exact yld h hm (a0U (.cons hv (.cons (atb b) (.nil I w g)))) hK
 | false=>exact yld h hm hv hK
theorem b3T (h:RelI I0 X w0 I g s a w) {kt:Nat} {x:V} {u:Value} {r:R} (hu:AtV I w g u x) (hk:b9e s.o kt x=some r):AtR I w u r/\a2w kt r=true:=by
 unfold b9e at hk
 split at hk
 ·rename_i r' hr
  split at hk
  ·rename_i hb;injection hk with hk;subst hk;exact⟨a6O h hu hr,hb⟩
  ·cases hk
 ·cases hk
theorem a8D {t kt e:Nat} (h:a6Q t=true) (hk:(ty t).key=some kt) (hv:(ty t).val=some e):d4 kt=true/\d4 e=true/\∀u∈(ty kt).fty,d4 u=true:=by
 unfold a6Q at h;rw[hk,hv] at h;simp only[c3D] at h;exact⟨h.1.1,h.1.2,c4g.1 h.2⟩
theorem b9m (h:RelI I0 X w0 I g s a w) {K:V->Prop} {t:Nat} {ok:Bool} (ht:d4 t=true) (hm:a6Q t=true) {v u:Value} {x i:V} (hv:AtV I w g v x) (hu:AtV I w g u i) (hK:a6i a7 s.o K t ok x i):Yld I0 X w0 g s a w (Instr.lookup t v u ok) K:=by
 unfold a6i at hK
 split at hK <;> try exact hK.elim
 rename_i hkd
 split at hK <;> try exact hK.elim
 rename_i kt e hkt hve
 split at hK <;> try exact hK.elim
 rename_i r hr;have hun:=b6J ht hkd hkt hve;obtain⟨k1,k2,k3⟩:=a8D hm hkt hve;obtain⟨h1,h2⟩:=b3T h hu hr;obtain rfl:=a3w h1 h2;have hchk:=(a9I k1 k3 h2 h2 (w:=w)).chk
 split at hK <;> try exact hK.elim
 ·rename_i k
  split at hK <;> try exact hK.elim
  rename_i kt' es ho
  split at hK <;> try exact hK.elim
  rename_i he;obtain rfl:=y9.1 he;obtain⟨b,l,c,g1,g2,g3,g4⟩:=h.obj k _ (j8 ho (by simp));obtain⟨b',hb',rfl⟩:=hv.unmp;rw[g1] at hb';injection hb' with hb'
  injection hb' with hb'
  subst hb';have hfind:=a7h k1 (b3R g3) (b0Y k1 k3 h2 g3 w);have hget:a7.mlook es r=a11 es r:=rfl;rw[hget] at hK
  rcases b25 (r:=r) (q:=r) 0 g3 with⟨j,en,p,e1,e2,e3,e4,e5,_⟩|⟨e1,e5,_⟩
  ·rw[e5] at hK;rw[e1] at hfind;obtain⟨_,hval,_⟩:=g3.2 j _ _ e2 e3;refine a7i h (a9A g hval) ?_ hK;cases ok <;> simp[Instr.lookup,run_underlying hun,MapKept.run_getObj_map g2,hchk,hfind,Result.andThen]
  ·rw[e5] at hK;rw[e1] at hfind;simp only[b0L] at hK
   split at hK <;> try exact hK.elim
   rename_i z hz;obtain⟨zv,z1,z2⟩:=b3S (I:=I) (g:=g) (w:=w) k2 hz;refine a7i h z2 ?_ hK;cases ok <;> simp[Instr.lookup,run_underlying hun,MapKept.run_getObj_map g2,hchk,hfind,z1,Result.andThen]
 ·have:=hv.sc;subst this;simp only[b0L] at hK
  split at hK <;> try exact hK.elim
  rename_i z hz;obtain⟨zv,z1,z2⟩:=b3S (I:=I) (g:=g) (w:=w) k2 hz;refine a7i h z2 ?_ hK;have hfind:=a7h k1 (w:=w) (r:=r) (ks:=[]) (es:=[]) rfl (by simp);cases ok <;> simp[Instr.lookup,run_underlying hun,hchk,hfind,hit,z1,Result.andThen]
theorem b7a {k:TK} {x y:D} (hx:a0l k x=true) (hy:a0l k y=true) (h:dEq x y=true):x=y:=by
 rcases a4D hx with⟨q,m,hk,rfl⟩|⟨m,hk,rfl⟩|⟨m,hk,rfl⟩ <;> rcases a4D hy with⟨q',n,hk',rfl⟩|⟨n,hk',rfl⟩|⟨n,hk',rfl⟩ <;> rw[hk] at hk' <;> first|cases hk';done|skip
 ·have hk':=TK.int.inj hk';subst hk';rw[dEq,a1a,c4v] at h;rw[h]
 ·rw[dEq,a0a,c4v] at h;obtain⟨⟨x⟩⟩:=m;obtain⟨⟨y⟩⟩:=n;simp only at h;rw[h]
 ·rw[dEq,a08,c4v] at h;rw[h]
theorem b3U:∀ {xs ys:List D} {us:List Nat} {fs:List (Nat×Nat)} {n:Nat},N8 us fs n xs=true->N8 us fs n ys=true->b2z xs ys=true->xs=ys
 | [],[],us,fs,n,_,_,_=>rfl
 | [],_::_,us,fs,n,_,_,h=>by cases h
 | _::_,[],us,fs,n,_,_,h=>by cases h
 | x::xs,y::ys,us,fs,n,hx,hy,h=>by
  rw[b2z] at h
  split at h
  ·rename_i h1;unfold N8 at hx
   split at hx
   ·contradiction
   ·rename_i u us off fs' n' d ds e3;obtain⟨e1,e2⟩:=List.cons.inj e3;subst e1;subst e2;rw[N8] at hy
    split at hx
    ·rename_i e;rw[e] at hy;simp only at hy
     split at hx
     ·rename_i h2
      split at hy
      ·rename_i h3;rw[b7a h2 h3 h1,b3U hx hy h]
      ·cases hy
     ·cases hx
    ·cases hx
   ·cases hx
  ·cases h
theorem c0S {t:Nat} {x y:R} (hx:a2w t x=true) (hy:a2w t y=true) (h:rEq x y=true):x=y:=by
 cases x with
 | one x =>
  cases y with
  | one y=>rw[b7a hx hy h]
  | ag ys=>cases h
 | ag xs =>
  cases y with
  | one y=>cases h
  | ag ys =>
   rw[a2w] at hx hy
   split at hx
   ·rename_i hk;rw[hk] at hy;simp only at hy
    split at hx
    ·rename_i hk;rw[hk] at hy;rw[b3U hx hy h]
    ·cases hx
   ·cases hx
theorem RelI.setMap (h:RelI I0 X w0 I g s a w) {k kt b c c':Nat} {es es':List (R×R)} {l l':Array MapEntry} (hk:s.o[k]?=some (.mp kt es)) (hg:g k=.map (some b)) (hb:w.heap[b]?=some (.map l c)) (hI:∀h,¬I b h) (hM:a19 X w0 b) (hes:a96 I w kt l'.toList es') :
  RelI I0 X w0 I g ⟨s.t,s.o.set k (.mp kt es')⟩ a (ChangeMaps.setBlock w b (.map l' c')):=by
 have hblk:P0 (g k) b:=by rw[hg];rfl
 have hlk:B1 s k:=⟨_,hk,by simp⟩;obtain⟨hs1,hs2⟩:=MapKept.heap_set (o':=.map l' c') hb;have hsz:(ChangeMaps.setBlock w b (.map l' c')).heap.size=w.heap.size:=by simp[ChangeMaps.setBlock]
 have hkp:o6 I w (ChangeMaps.setBlock w b (.map l' c')):=λb' h' hi i _=>by
  refine a2C (hs2 b' λe=>?_) i;subst e;exact hI _ hi
 refine⟨h.im,λb' h' hi=>by rw[hsz];exact h.lt b' h' hi,?_,h.kp.trans λb k hbk i hi=>hkp b k (h.im b k hbk) i hi,by simpa using h.lo,h.st,λj o hj=>?_,λi j b' hi hj=>h.dis i j b' (P3 hk (by simp) hi) (P3 hk (by simp) hj),λj hj=>h.out j (by simpa using hj),h.tmp.mono (λ_ _ h=>h) hkp,h.dfr⟩
 ·refine⟨h.fr.os,h.fr.tape,h.fr.output,by rw[hsz];exact h.fr.size,λb' hb' hX=>?_⟩;refine(hs2 b' λe=>?_).trans (h.fr.block b' hb' hX);subst e
  rcases hM with hM|hM
  ·omega
  ·exact hX hM
 ·by_cases e:k=j
  ·subst e;have hlt:k<s.o.length:=(c35.1 hk).1;simp only[c3V hlt] at hj;have hj:=Option.some.inj hj;subst hj;exact⟨b,l',c',hg,hs1,hes.mono (λ_ _ h=>h) hkp,hI,hM⟩
  ·simp only[c3O e] at hj;have ho:=h.obj j o hj
   by_cases hd:o=.dead
   ·subst hd;exact True.intro
   ·refine ho.keep (λ_ _ h=>h) hkp (λb' hb'=>hs2 b' λe'=>?_) λ_ _ _ h=>h
    subst e';exact e (h.dis k j _ hlk ⟨o,hj,hd⟩ hblk hb')
theorem c0T (h:RelI I0 X w0 I g s a w) {K:S->Prop} {t:Nat} (ht:d4 t=true) (hm:a6Q t=true) {v u q:Value} {x i y:V} (hv:AtV I w g v x) (hu:AtV I w g u i) (hq:AtV I w g q y) (hK:a94 a7 s K t x i y):∃w' s',(Instr.mapUpdate t v u q).run Tryd.prog w=.ok () w'/\RelI I0 X w0 I g s' a w'/\K s':=by
 unfold a94 at hK
 split at hK <;> try exact hK.elim
 rename_i hkd
 split at hK <;> try exact hK.elim
 rename_i kt k hkt
 split at hK <;> try exact hK.elim
 rename_i r qr kt' es hr hqr ho
 split at hK <;> try exact hK.elim
 rename_i he;obtain rfl:=y9.1 he;obtain⟨b',hb',rfl⟩:=hv.unmp;have hok:=j8 ho (by simp);obtain⟨b,l,c,g1,g2,g3,g4,g5⟩:=h.obj k _ hok;rw[g1] at hb';have hb':=Option.some.inj (Value.map.inj hb');subst hb';have hmo:=hm;unfold a6Q at hmo;rw[hkt] at hmo
 split at hmo
 ·rename_i kt0 e hkt0 hve;have hkt0:=Option.some.inj hkt0;subst hkt0;have hun:=b6J ht hkd hkt hve;obtain⟨k1,k2,k3⟩:=a8D hm hkt hve;obtain⟨h1,h2⟩:=b3T h hu hr;obtain rfl:=a3w h1 h2;have hqa:=a6O h hq hqr;have hko:=a9I k1 k3 h2 h2 (w:=w);have hfind:=a7h k1 (b3R g3) (b0Y k1 k3 h2 g3 w);have hput:a7.mput es r qr=a05 es r qr:=rfl;rw[hput,y5] at hK
  rcases b25 (r:=r) (q:=qr) 0 g3 with⟨j,en,p,e1,e2,e3,e4,_,e6⟩|⟨e1,_,e6⟩
  ·rw[e6] at hK;rw[e1,c4z] at hfind;obtain⟨p1,p2,p3⟩:=g3.2 j _ _ e2 e3;have hre:=c0S p3 h2 e4;have hkey:en.key=rVal r:=by rw[a3w p1 p3,hre]
   have hst:(Instr.keyThatStays (rVal r) (rVal r)).run Tryd.prog w=.ok (rVal r) w:=by
    simp only[Instr.keyThatStays,hko.bits,c5O,Sem.run_pure]
   have hlj:l[j]?=some en:=by rw[<-c4w];exact e2
   refine⟨ChangeMaps.setBlock w b (.map (l.modify j λe=>{ e with key:=rVal r,val:=q }) c),_,?_,h.setMap (es':=es.set j (p.1,qr)) hok g1 g2 g4 g5 ⟨by simp[g3.1],λi e2' p' he' hp'=>?_⟩,hK⟩
   ·simp[Instr.mapUpdate,run_underlying hun,MapKept.run_getObj_map g2,hko.chk,hfind,hlj,hkey,hst,MapKept.run_setObj_map _ g2,Result.andThen,ChangeMaps.setBlock]
   ·by_cases hij:j=i
    ·subst hij;have hl1:j<es.length:=(c35.1 e3).1;rw[c3V hl1] at hp';have hp':=Option.some.inj hp';subst hp';rw[c4w,c5z,c3E rfl,hlj] at he';have he':=Option.some.inj he';subst he';refine⟨?_,hqa,p3⟩;show AtR I w (rVal r) p.1;rw[<-hkey];exact p1
    ·rw[c3O hij] at hp';rw[c4w,c5z,c3G hij,<-c4w] at he';exact g3.2 i _ _ he' hp'
  ·rw[e6] at hK;rw[e1] at hfind;refine⟨ChangeMaps.setBlock w b (.map (l.push { key:=rVal r,val:=q,born:=c }) (c+1)),_,?_,h.setMap (es':=es++[(r,qr)]) hok g1 g2 g4 g5 ⟨by simp[g3.1],λi e2' p' he' hp'=>?_⟩,hK⟩
   ·simp[Instr.mapUpdate,run_underlying hun,MapKept.run_getObj_map g2,hko.chk,hfind,MapKept.run_setObj_map _ g2,Result.andThen,ChangeMaps.setBlock]
   ·rw[Array.toList_push] at he'
    rcases c4q i l.toList.length with hi|hi
    ·rw[c3S hi] at he';rw[c3S (by rw[<-g3.1];exact hi)] at hp';exact g3.2 i _ _ he' hp'
    ·rw[c3Q hi] at he';rw[c3Q (by rw[<-g3.1];exact hi),<-g3.1] at hp';cases hd:i - l.toList.length with
     | zero =>
      rw[hd] at he' hp';have he':=Option.some.inj he';have hp':=Option.some.inj hp';subst he';subst hp';exact⟨h1,hqa,h2⟩
     | succ n=>rw[hd] at he';simp at he'
 ·cases hmo
theorem c2c (h:RelI I0 X w0 I g s a w) {kt:Nat}:∃g',g' s.o.length=.map (some w.heap.size)/\RelI I0 X w0 I g' (s.obj (.mp kt [])) a (w.alloc (.map #[] 0)):=by
 have hb:Below w.heap.size w (w.alloc (.map #[] 0)):=(Below.refl _ _).alloc (c3A _) _;have h2:=h.grow hb (I':=I) (λ_ _ h=>h) (λ_ _ h=>.inl h);refine⟨upd g s.o.length (.map (some w.heap.size)),i7 ..,h2.newObj _ _ ⟨w.heap.size,#[],0,i7 ..,(MapKept.heap_alloc w _).1,⟨rfl,λi e p he=>by simp at he⟩,λk hk'=>?_,.inl h.fr.size⟩ λj b hj hbj e=>?_⟩
 ·exact absurd (h.lt _ _ hk').1 (by omega)
 ·have e:w.heap.size=b:=e;have:=h.blk_lt hj hbj;omega
end
end
section
theorem a5D {t:Nat} (h:b0Q t=true):(ty t).kind=.array->∀e,(ty t).val=some e->d4 e=true:=λhk e he=>by
 unfold b0Q at h;rw[hk,he] at h;exact h
section
variable {I0:Nat->Nat->Prop} {X:Nat->Prop} {w0:W0} {I:Nat->Nat->Prop} {g:Nat->Value} {s:S} {a:Act} {w:World}
theorem W7 {o:Oper} {Q:Exit->Act->World->Prop} {K:S->Prop} {m:Sem Value} (he:execOp a.eval o=(do pure (.value (<-m)))) (hy:Yld I0 X w0 g s a w m λx=>K (s.put o.dst x)):o.wp Tryd.prog a w (λa' w'=>∃s',Z4 I0 X w0 s' a' w'/\K s') Q:=by
 obtain⟨v,x,w',I',h1,h2,h3,h4⟩:=hy;unfold Oper.wp;rw[he];simp only[Sem.run_bind,h1,Result.andThen_ok,Sem.run_pure];rw[Oper.upon_value];exact⟨_,⟨I',g,h2.put h3 _⟩,h4⟩
theorem a67 {o:Oper} {Q:Exit->Act->World->Prop} {K:S->Prop} {m:Sem Value} (he:(execOp a.eval o).run Tryd.prog w=(m.run Tryd.prog w).andThen λv w'=>.ok (.value v) w') (hy:Yld I0 X w0 g s a w m λx=>K (s.put o.dst x)):o.wp Tryd.prog a w (λa' w'=>∃s',Z4 I0 X w0 s' a' w'/\K s') Q:=by
 obtain⟨v,x,w',I',h1,h2,h3,h4⟩:=hy;unfold Oper.wp;rw[he,h1,Result.andThen_ok,Oper.upon_value];exact⟨_,⟨I',g,h2.put h3 _⟩,h4⟩
theorem b26 {o:Oper} {Q:Exit->Act->World->Prop} {K:S->Prop} (h:RelI I0 X w0 I g s a w) {v:Value} {x:V} (he:execOp a.eval o=pure (.value v)) (hv:AtV I w g v x) (hK:K (s.put o.dst x)):o.wp Tryd.prog a w (λa' w'=>∃s',Z4 I0 X w0 s' a' w'/\K s') Q:=by
 unfold Oper.wp;rw[he,Sem.run_pure,Oper.upon_value];exact⟨_,⟨I,g,h.put hv _⟩,hK⟩
theorem a1b {t:Nat} (h:a5z t=true):∀e,(ty t).elem=some e->d4 e=true:=λe he=>by
 unfold a5z at h;rw[he] at h;exact h
theorem a0L {o:Oper} {f:Nat} {x:Operand} {args:Array Operand} {ts:Array Nat} {cs:List Value} (ho:o.op=.call ⟨.value x,args,ts⟩) (hx:a.eval x=.func (.func f) #[] cs.toArray) (hf:a0X Tryd.prog f=true):(execOp a.eval o).run Tryd.prog w=.ok (.enter f (args.toList.map a.eval++cs).toArray) w:=by
 unfold a0X at hf;cases hfn:Tryd.prog.funcs[f]? with
 | none=>rw[hfn] at hf;cases hf
 | some fn =>
  rw[hfn] at hf;simp only[c3D,bne_iff_ne,ne_eq] at hf;have h1:(fn.name == "runtime.NumGoroutine")=false:=c3R.2 hf.1
  have h2:fn.body.isNone=false:=by
   cases hb:fn.body with
   | none=>rw[hb] at hf;simp at hf
   | some c=>rfl
  have h4:(args.map a.eval)++cs.toArray=(args.toList.map a.eval++cs).toArray:=by apply c4Y;simp
  unfold execOp;simp only[ho,resolve,hx,Deferred.ofValue,invoke,callFunc,Sem.run_bind,Sem.run_pure,Result.andThen_ok,program,Sem.run,hfn,h1,h2,<-h4]
  simp
theorem b9n (h:RelI I0 X w0 I g s a w) {o:Oper} {Q:Exit->Act->World->Prop} {K:S->Prop} {f:Nat} {us:List Value} {vs:List V} {rs q:List R} (hrun:a0X Tryd.prog f=true->(execOp a.eval o).run Tryd.prog w=.ok (.enter f us.toArray) w) (hv:j2 I w g us vs) (hrs:a0E s.o vs=some rs) (hq:l6 f rs q) (hK:K (s.put o.dst (a22 q))):o.wp Tryd.prog a w (λa' w'=>∃s',Z4 I0 X w0 s' a' w'/\K s') Q:=by
 have hat:=a47 h hv hrs;have hc:=hq.2 I w _ h.wld hat;unfold Oper.wp;rw[hrun hq.1,Oper.upon_enter];refine hc.mono ?_
 rintro e w' ⟨v,rfl,hres,hbel⟩
 have h5:=h.grow hbel (I':=nxt I w w') (λ_ _ h=>.inl h) (λ_ _ h=>h);exact⟨_,⟨_,g,h5.put (a65 g hres) _⟩,hK⟩
theorem a7j (h:RelI I0 X w0 I g s a w) {o:Oper} {Q:Exit->Act->World->Prop} {K:S->Prop} {f:Nat} {us:List Value} {vs:List V} (hrun:a0X Tryd.prog f=true->(execOp a.eval o).run Tryd.prog w=.ok (.enter f us.toArray) w) (hv:j2 I w g us vs) (hK:a7.callo f vs s (λv s'=>K (s'.put o.dst v))):o.wp Tryd.prog a w (λa' w'=>∃s',Z4 I0 X w0 s' a' w'/\K s') Q:=by
 obtain⟨hf,hK⟩:=hK;unfold Oper.wp;rw[hrun hf,Oper.upon_enter];refine(hK I0 X w0 I g s.t a w us h hv).mono ?_
 rintro e w' ⟨v,x,o',ks,I',g',rfl,h',hv',hK⟩
 exact⟨_,⟨I',g',h'.put hv' _⟩,hK⟩
theorem b7b (h:RelI I0 X w0 I g s a w) {o:Oper} {Q:Exit->Act->World->Prop} {K:S->Prop} {f:Nat} {us:List Value} {vs:List V} {l:List Nat} (hrun:a0X Tryd.prog f=true->(execOp a.eval o).run Tryd.prog w=.ok (.enter f us.toArray) w) (hv:j2 I w g us vs) (hK:a7.callx f vs l s (λv s'=>K (s'.put o.dst v))):o.wp Tryd.prog a w (λa' w'=>∃s',Z4 I0 X w0 s' a' w'/\K s') Q:=by
 obtain⟨hf,hK⟩:=hK;unfold Oper.wp;rw[hrun hf,Oper.upon_enter];refine(hK I0 X w0 I g s.t a w us h hv).mono ?_
 rintro e w' ⟨v,x,o',I',g',rfl,h',hv',_,hK⟩
 exact⟨_,⟨I',g',h'.put hv' _⟩,hK⟩
theorem b3V (h:RelI I0 X w0 I g s a w) {o:Oper} {Q:Exit->Act->World->Prop} {K:S->Prop} {f:Nat} {us:List Value} {vs:List V} (hrun:a0X Tryd.prog f=true->(execOp a.eval o).run Tryd.prog w=.ok (.enter f us.toArray) w) (hv:j2 I w g us vs)
  (hK:callV a7 s.o (λx=>K (s.put o.dst x)) f vs):o.wp Tryd.prog a w (λa' w'=>∃s',Z4 I0 X w0 s' a' w'/\K s') Q:=by
 unfold callV at hK
 split at hK
 ·rename_i rs hrs;obtain⟨q,hq,hK⟩:=hK;exact b9n h hrun hv hrs hq hK
 ·obtain⟨q,⟨hf,hq⟩,hK⟩:=hK;unfold Oper.wp;rw[hrun hf,Oper.upon_enter];refine(hq I0 X w0 I g s.t a w _ h hv).mono ?_
  rintro e w' ⟨v,I',g',rfl,h',hres⟩
  exact⟨_,⟨I',g',h'.put hres _⟩,hK⟩
theorem b3W (h:RelI I0 X w0 I g s a w):∀ {l:List V} {us:List Value} {ks:List Nat},j2 I w g us l->b0K l=some ks->us.length=ks.length/\∀(i:Nat) (u:Value) (k:Nat),us[i]?=some u->ks[i]?=some k->u=g k/\∃b,g k=.pointer (some ⟨b,0,none⟩)
 | [],us,ks,hv,hp=>by
  rw[b0K] at hp;injection hp with hp;subst hp;rw[hv.unnil];exact⟨rfl,λi u k hu=>by simp at hu⟩
 | x::l,us,ks,hv,hp=>by
  obtain⟨u,us',rfl,h1,h2⟩:=hv.uncons;unfold b0K at hp
  split at hp
  ·rename_i e;cases e
  ·rename_i k l' e;injection e with e1 e2;subst e1;subst e2
   split at hp
   ·rename_i ks' hks;injection hp with hp;subst hp;obtain⟨h3,h4⟩:=b3W h h2 hks;obtain⟨b,hg,rfl⟩:=h1.unptr;refine⟨by simp[h3],λi v j hv hj=>?_⟩;cases i with
    | zero=>simp at hv hj;subst hv;subst hj;exact⟨hg.symm,b,hg⟩
    | succ i=>exact h4 i v j (by simpa using hv) (by simpa using hj)
   ·cases hp
  ·cases hp
theorem a9J:∀ {ks:List Nat} {us:List Value},us.length=ks.length->(∀(i:Nat) (u:Value) (k:Nat),us[i]?=some u->ks[i]?=some k->u=g k/\∃b,g k=.pointer (some ⟨b,0,none⟩))->j2 I w g us (a6K ks)
 | [],us,hl,_=>by rw[c3P hl];exact .nil I w g
 | k::ks,[],hl,_=>by simp at hl
 | k::ks,u::us,hl,h=>by
  obtain⟨h1,b,h2⟩:=h 0 u k rfl rfl;refine .cons ?_ (a9J (by simpa using hl) λi v j hv hj=>h (i+1) v j (by simpa using hv) (by simpa using hj));rw[h1,h2];exact .ptr k 0 b h2
theorem W8:∀l m:List V,a1X l m=l++m
 | [],m=>rfl
 | x::l,m=>by rw[a1X,W8 l m];rfl
theorem c0U (h:RelI I0 X w0 I g s a w) {o:Oper} {Q:Exit->Act->World->Prop} {K:S->Prop} {t n:Nat} {ps:Array (Nat×Operand)} (ho:o.op=.buildSlice t (n+1) ps) (hop:Z0 Tryd.prog o.op=true) (hK:litV a7 s o.dst K t (n+1) ps.toList):o.wp Tryd.prog a w (λa' w'=>∃s',Z4 I0 X w0 s' a' w'/\K s') Q:=by
 rw[ho] at hop;simp only[Z0,c3D] at hop;unfold litV at hK
 split at hK <;> try exact hK.elim
 rename_i e he
 have hte:∀e,(ty t).elem=some e->d4 e=true/\(n+1) * (ty e).sz<=16777216:=λe he=>by
  have h2:=hop.2;rw[he] at h2;simp only[c3D] at h2;exact⟨h2.1,c4p h2.2⟩
 obtain⟨e',rows,us,he',hke,hrun,hl,hrl,hr1,hat,hK⟩:=a2I h hop.1.1 hte ps hK;rw[he] at he';injection he' with he'
 subst he';obtain⟨z0,hK⟩:=hK;have hb:Below w.heap.size w (w.alloc (.cells us.toArray e)):=(Below.refl _ _).alloc (c3A _) _;have hk:o6 I w (w.alloc (.cells us.toArray e)):=λb k hbk i _=>hb.cell (p:=⟨b,i,none⟩) (h.lt b k hbk).1
 have h2:=h.grow hb (I':=λb k=>I b k\/(z0=true/\b=w.heap.size/\k<=(n+1) * (ty e).sz)) (λ_ _ h=>.inl h) (λb k hk=>by
  rcases hk with hk|⟨_,hk,_⟩
  ·exact .inl hk
  ·exact .inr ⟨by omega,by simp[hk]⟩)
 have h3:=h2.newObj (.row z0 e rows) (.slice (some ⟨w.heap.size,0,none⟩) (n+1) (n+1)) ⟨us,by
   rw[i7,hrl];refine⟨hl,.inr ⟨w.heap.size,n+1,us.toArray,rfl,c4e _,heap_alloc_new w _,c3A _,?_,by simp[hl],by simp[<-hl]⟩⟩;have:=c4p hop.1.2;unfold maxLen
   omega,hr1,hat.mono (λ_ _ h=>.inl h) hk,λb hb=>by
   rw[i7] at hb;have hb:=Option.some.inj hb;subst hb;refine⟨λhz=>.inr ⟨hz,rfl,by rw[hrl];exact c3A _⟩,λk hk=>?_,.inl h.fr.size⟩
   rcases hk with hk|⟨hz,_,hk⟩
   ·exact absurd (h.lt _ _ hk).1 (c5P _)
   ·exact⟨hz,by rw[hrl];exact hk⟩⟩ (λj b hj hb hb'=>by
   have hb':w.heap.size=b:=hb';have h4:=h.blk_lt hj hb
   omega)
 unfold Oper.wp
 have hex:(execOp a.eval o).run Tryd.prog w=.ok (.value (.slice (some ⟨w.heap.size,0,none⟩) (n+1) (n+1))) (w.alloc (.cells us.toArray e)):=by
  unfold execOp;rw[ho];simp only[Sem.run_bind,hrun,Result.andThen_ok,Sem.run_pure]
 rw[hex,Oper.upon_value];exact⟨_,⟨_,_,h3.put (x:=.own (j6 s.o)) (.own _ _ _ _ (by rw[l9,i7];rfl)) _⟩,hK⟩
set_option maxRecDepth 20000 in
theorem b7c (h:RelI I0 X w0 I g s a w) {i f:Nat} {ks:List Nat} (hf:fnV (m5 s.t i)=some (f,ks)):∃cs:List Value,a.eval (.tmp i)=.func (.func f) #[] cs.toArray/\j2 I w g cs (a6K ks):=by
 have hx:AtV I w g (a.eval (.tmp i)) (m5 s.t i):=h.get (.tmp i);unfold fnV at hf
 split at hf
 ·rename_i f' ks' hcl;injection hf with hf;injection hf with e1 e2;subst e1;subst e2;rw[hcl] at hx;generalize a.eval (.tmp i)=y at hx ⊢;cases hx with
  | cl f us ks hl h2=>exact⟨us,rfl,a9J hl h2⟩
 ·rename_i f' hd;injection hf with hf;injection hf with e1 e2;subst e1;subst e2;rw[hd] at hx;exact⟨[],hx.sc,.nil I w g⟩
 ·cases hf
theorem b7d (h:RelI I0 X w0 I g s a w) {x:Operand} {f:Nat} {ks:List Nat} (hf:fnV (s.get x)=some (f,ks)):∃cs:List Value,a.eval x=.func (.func f) #[] cs.toArray/\j2 I w g cs (a6K ks):=by
 have hx:AtV I w g (a.eval x) (s.get x):=h.get x;unfold fnV at hf
 split at hf
 ·rename_i f' ks' hcl;injection hf with hf;injection hf with e1 e2;subst e1;subst e2;rw[hcl] at hx;generalize a.eval x=y at hx ⊢;cases hx with
  | cl f us ks hl h2=>exact⟨us,rfl,a9J hl h2⟩
 ·rename_i f' hd;injection hf with hf;injection hf with e1 e2;subst e1;subst e2;rw[hd] at hx;exact⟨[],hx.sc,.nil I w g⟩
 ·cases hf
set_option maxRecDepth 10000 in
theorem a4G (h:RelI I0 X w0 I g s a w) {o:Oper} {Q:Exit->Act->World->Prop} {K:S->Prop} (hop:Z0 Tryd.prog o.op=true) (hK:stepC a7 s.get s.o (λx=>K (s.put o.dst x)) o.op):o.wp Tryd.prog a w (λa' w'=>∃s',Z4 I0 X w0 s' a' w'/\K s') Q:=by
 obtain⟨dst,op,type,pos,after,gd⟩:=o;simp only at hop hK ⊢;unfold stepC at hK
 split at hK <;> try exact hK.elim
 ·rename_i x;exact b26 h rfl (h.get x) hK
 ·rename_i x;exact b26 h rfl (h.get x) hK
 ·rename_i c x y;exact a67 (by simp only[execOp,Sem.run_bind];cases (asBool (a.eval c)).run Tryd.prog w <;> rfl) (b9l h (h.get c) (h.get x) (h.get y) hK)
 ·rename_i t x;exact W7 rfl (b9h h hop (h.get x) hK)
 ·rename_i t x i;exact W7 rfl (b6S h hop (h.get x) hK)
 ·rename_i t x i;simp only[Z0,c3D] at hop;exact W7 rfl (b9i h hop.1 (λu hu=>c4g.1 hop.2 u (c3J hu)) (h.get x) hK)
 ·rename_i t x i;simp only[Z0,c3D] at hop;exact W7 rfl (b6T h hop.1.1 (a1b hop.1.2) (a5D hop.2) (h.get x) (h.get i) hK)
 ·rename_i t x i;simp only[Z0,c3D] at hop;exact W7 rfl (b9k h hop.1 (a5D hop.2) (h.get x) (h.get i) hK)
 ·rename_i op t x y yt;exact W7 rfl (c0Q h hop x y (h.get x) (h.get y) hK)
 ·rename_i op t x;exact W7 rfl (c2a h (h.get x) hK)
 ·rename_i t0 t x;simp only[Z0,c3D] at hop;exact W7 rfl (b9j h hop.1.1 hop.1.2 hop.2 (h.get x) hK)
 ·rename_i t ps;simp only[Z0,c3D] at hop;exact W7 rfl (b6X h hop.1 (a5D hop.2) ps hK)
 ·rename_i t n ps;simp only[Z0,c3D] at hop;refine W7 rfl (a8z h hop.1.1 (λe he=>?_) ps hK);have h2:=hop.2;rw[he] at h2;simp only[c3D] at h2;exact⟨h2.1,c4p h2.2⟩
 ·rename_i x i;exact W7 rfl (b24 h (h.get x) hK)
 ·rename_i t x lo hi;simp only[Z0,c3D] at hop;exact W7 rfl (b6Z h hop.1 (a1b hop.2) (h.get x) hK)
 ·rename_i x t;refine a67 (m:=Builtin.len_ #[t] type #[a.eval x]) ?_ (c0R h hop (h.get x) hK)
  simp[execOp,resolve,invoke,builtin]
 ·rename_i f args ts;exact b3V h (λhf=>a0L (cs:=[]) rfl rfl hf) (by rw[c3X];exact h.gets args.toList) hK
 ·rename_i t x i ok;simp only[Z0,c3D] at hop;exact W7 rfl (b9m h hop.1 hop.2 (h.get x) (h.get i) hK)
 ·rename_i args ts;have e:args.map a.eval=(args.toList.map a.eval).toArray:=by apply c4Y;simp
  refine a67 (s:=s) (g:=g) (m:=Builtin.min_ ts type (args.map a.eval)) (by simp[execOp,resolve,invoke,builtin]) ?_;rw[e];exact b6Y (mx:=false) (ts:=ts) (ty':=type) h (h.gets args.toList) hK
 ·rename_i args ts;have e:args.map a.eval=(args.toList.map a.eval).toArray:=by apply c4Y;simp
  refine a67 (s:=s) (g:=g) (m:=Builtin.max_ ts type (args.map a.eval)) (by simp[execOp,resolve,invoke,builtin]) ?_;rw[e];exact b6Y (mx:=true) (ts:=ts) (ty':=type) h (h.gets args.toList) hK
 ·rename_i x;obtain⟨h1,_,h2⟩:=c2b h (h.get x) hK;refine b26 h (v:=a.eval x) ?_ (h.get x) h1;unfold execOp
  rcases h2 with⟨b,hb⟩|⟨f,cs,hb⟩ <;> simp only[hb]
 ·rename_i f cs
  split at hK <;> try exact hK.elim
  rename_i ks hks;obtain⟨h1,h2⟩:=b3W h (h.gets cs.toList) hks;have e:cs.map a.eval=(cs.toList.map a.eval).toArray:=by apply c4Y;simp
  refine W7 rfl (yld (v:=.func (.func f) #[] (cs.toList.map a.eval).toArray) h ?_ (.cl f _ ks h1 h2) hK);rw[e]
  simp[Instr.makeFunc]
 ·rename_i i args ts;unfold a5x at hK
  split at hK <;> try exact hK.elim
  rename_i f ks hf;obtain⟨cs,hc1,hc2⟩:=b7c h hf;exact b3V h (λhf=>a0L (cs:=cs) rfl hc1 hf) (by rw[W8];exact(h.gets args.toList).append hc2) hK
theorem b7e {o:Oper} {Q:Exit->Act->World->Prop} {K:S->Prop} (h:RelI I0 X w0 I g s a w) {us:List Value} {cs:List V} {t:Nat} (hu:j2 I w g us cs) (h1:∀u∈us,u.oneCell'=true)
  (he:(execOp a.eval o).run Tryd.prog w=.ok (.value (.pointer (some ⟨w.heap.size,0,none⟩))) (w.alloc (.cells us.toArray t))) (hK:K ((s.obj (.box cs)).put o.dst (.ptr (j6 s.o) 0))):o.wp Tryd.prog a w (λa' w'=>∃s',Z4 I0 X w0 s' a' w'/\K s') Q:=by
 unfold Oper.wp;rw[he,Oper.upon_value];obtain⟨g',hg,h2⟩:=h.box hu h1 t;rw[<-l9] at hg;exact⟨_,⟨I,g',h2.put (.ptr _ 0 _ hg) _⟩,hK⟩
theorem b7f {o:Oper} {Q:Exit->Act->World->Prop} {K:S->Prop} (h:RelI I0 X w0 I g s a w) {us:List Value} {t:Nat}
  (he:(execOp a.eval o).run Tryd.prog w=.ok (.value (.pointer (some ⟨w.heap.size,0,none⟩))) (w.alloc (.cells us.toArray t))) (hK:K ((s.obj (.ob t us)).put o.dst (.ptr (j6 s.o) 0))):o.wp Tryd.prog a w (λa' w'=>∃s',Z4 I0 X w0 s' a' w'/\K s') Q:=by
 unfold Oper.wp;rw[he,Oper.upon_value];obtain⟨g',hg,h2⟩:=h.obNew us t;rw[<-l9] at hg;exact⟨_,⟨I,g',h2.put (.ptr _ 0 _ hg) _⟩,hK⟩
theorem a6m (I:Nat->Nat->Prop) (w:World) (g:Nat->Value) {l:List Value} (h:a21 (B6 l)=true):∀u∈l,u.oneCell'=true:=a66 (I:=I) (w:=w) (g:=g) (H9 l) h
theorem b55 {m:Bool} (h:RelI I0 X w0 I g s a w) {o:Oper} {Q:Exit->Act->World->Prop} {K:S->Prop} {x y:Operand} {t:Nat} (ho:o.op=.call ⟨.builtin .append,⟨[x,y]⟩,⟨[t,t]⟩⟩) (ht:d4 t=true) (hte:∀e,(ty t).elem=some e->d4 e=true/\0<(ty e).sz)
  (hK:B9 a7 m s o.dst K t (s.get x) (s.get y)):o.wp Tryd.prog a w (λa' w'=>∃s',Z4 I0 X w0 s' a' w'/\K s') Q:=by
 unfold B9 at hK
 split at hK <;> try exact hK.elim
 rename_i e he
 split at hK <;> try exact hK.elim
 rename_i sz ys hys
 split at hK <;> try exact hK.elim
 rename_i hsz;obtain⟨hke,hpos⟩:=hte e he;have hun:=F5 ht he;obtain⟨i,z,hi,his,hiz,hzc,hzl,hby⟩:=a0G hke;have hzs:z.cells.size=(ty e).sz:=by rw[hzc];simp[hzl]
 obtain⟨hd,hnil⟩:=a9H h (h.get y) hys;have hd2:=b3Q hsz hd hnil;obtain⟨A,cap,hyv,hcap,hrows⟩:=hd2.slice
 obtain⟨vs,hsrc,hrl,hvs⟩:∃vs,b6F w A ys.length (ty e).sz vs/\(∀r∈ys,r.length=(ty e).sz)/\s9 I w vs ys.flatten:=by
  rcases hrows with rfl|⟨b,off,us,rfl,hI,hrl,hl,hc,hds⟩
  ·exact⟨[],⟨by simp,by simp,λad _ j u hu=>by simp at hu,by simp⟩,by simp,.nil I w⟩
  ·exact⟨us,⟨hl,by simp,λad had j u hu=>by have h9:=Option.some.inj had;rw[<-h9,Addr.add_lit];exact hc j u hu,hds.one⟩,hrl,hds⟩
 have room:∀n,n+ys.length<=137438953472->n+ys.length<=maxLen/\(n+ys.length) * i.bytes<=140737488355328:=λn hn=>by
  refine⟨by unfold maxLen;omega,?_⟩
  have h1:(n+ys.length) * i.bytes<=137438953472 * 1024:=Nat.mul_le_mul hn hby
  omega
 have hexec:∀v' w',(Builtin.append_ #[t,t] o.type #[a.eval x,.slice A ys.length cap]).run Tryd.prog w=.ok v' w'->(execOp a.eval o).run Tryd.prog w=.ok (.value v') w':=λv' w' hr=>by
  unfold execOp;rw[ho];simp only[resolve,invoke,builtin,Sem.run_bind,Sem.run_pure,Result.andThen_ok,List.map_toArray,c3Y,c5f,hyv,hr]
 have hx:=h.get x
 split at hK <;> try exact hK.elim
 ·-- behind nothing
  rename_i hxe;rw[hxe] at hx;obtain⟨hroom,z0,hK⟩:=hK;have hr:=room 0 (show 0+ys.length<=137438953472 from hroom);have hxv:a.eval x=.slice none 0 0:=hx.unem;obtain⟨v',w',hrun,hown,hsp⟩:=Z7 (P:=Tryd.prog) w 0 t o.type e i z (ty e).sz i.bytes hun hi hiz his rfl hzs hpos (.slice none 0 0) 0 [] (World.ownsRow_nil w 0 e _) A ys.length cap vs hsrc hr.1 hr.2 (c4e _)
  rcases hsp with⟨b,hb,_⟩|⟨hbel,hblk⟩
  ·cases hb
  rw[c4z,c4t] at hown;have hkp:o6 I w w':=λb k hbk i _=>hbel.cell (p:=⟨b,i,none⟩) (h.lt b k hbk).1
  have hlt:∀b,v'.ownBlock=some b->b=w.heap.size/\b<w'.heap.size:=λb hb=>by
   refine⟨?_,(hown.lt b hb).2⟩
   rcases hblk with h1|h1
   ·rw[h1] at hb;cases hb
   ·rw[h1] at hb;exact(Option.some.inj hb).symm
  have h2:=h.grow hbel (I':=λb k=>I b k\/(z0=true/\v'.ownBlock=some b/\k<=ys.length * (ty e).sz)) (λ_ _ h=>.inl h) (λb k hk=>by
   rcases hk with hk|⟨_,hk,_⟩
   ·exact .inl hk
   ·obtain⟨h1,h2⟩:=hlt b hk;exact .inr ⟨by omega,h2⟩)
  have h3:=h2.newObj (.row z0 e ys) v' ⟨vs,by rw[i7];exact hown,hrl,hvs.mono (λ_ _ h=>.inl h) hkp,λb hb=>by
   rw[i7] at hb;refine⟨λhz=>.inr ⟨hz,hb,c3A _⟩,λk hk=>?_,.inl ?_⟩
   ·rcases hk with hk|⟨hz,_,hk⟩
    ·have:=(h.lt _ _ hk).1;have:=(hlt b hb).1;omega
    ·exact⟨hz,hk⟩
   ·have:=(hlt b hb).1;have:=h.fr.size;omega⟩ (λj b hj hb hb'=>by
   have hb':=(a0W hown).1 hb';have h1:=(hlt b hb').1;have h2:=h.blk_lt hj hb
   omega)
  unfold Oper.wp;rw[hexec v' w' (by rw[hxv];exact hrun),Oper.upon_value];obtain⟨A',c',hv'⟩:=N0 hown;refine⟨_,⟨_,_,(RelI.freshly h3).put (x:=.own (j6 s.o)) ?_ _⟩,hK⟩;rw[hv'];exact .own _ _ _ _ (by rw[l9,i7];rfl)
 ·-- behind a row
  rename_i k hxk;rw[hxk] at hx
  split at hK <;> try exact hK.elim
  rename_i z0 e' xs hok
  split at hK <;> try exact hK.elim
  rename_i hee;rw[y9] at hee;subst hee;obtain⟨hroom,hK⟩:=hK;have hr:=room xs.length (show xs.length+ys.length<=137438953472 from hroom);have hk:=j8 hok (by simp);obtain⟨us,hown,hxl,hxd,hxb⟩:=h.obj k _ hk;have hxv:a.eval x=g k:=hx.unown.1.trans (a2D hown);obtain⟨v',w',hrun,hown',hsp⟩:=Z7 (P:=Tryd.prog) w 0 t o.type e' i z (ty e').sz i.bytes hun hi hiz his rfl hzs hpos (g k) xs.length us hown A ys.length cap vs hsrc hr.1 hr.2 (c4e _);obtain⟨I',g',hg',h2⟩:=h.appended hk hown hrl hvs hown' hsp;unfold Oper.wp;rw[hexec v' w' (by rw[hxv];exact hrun),Oper.upon_value];obtain⟨A',c',hv'⟩:=N0 hown';rw[y5] at hK;refine⟨_,⟨_,_,h2.put (x:=.own k) ?_ _⟩,hK⟩;rw[hv'];exact .own _ _ _ _ (by rw[hg',hv'];rfl)
theorem b0Z {α:Type} (n:Nat) (l:List α):(List.replicate n l).flatten.length=n * l.length:=by
 rw[List.length_flatten,List.map_replicate,List.sum_replicate_nat]
theorem b9o (h:RelI I0 X w0 I g s a w) {o:Oper} {Q:Exit->Act->World->Prop} {K:S->Prop} {x y:Operand} {t:Nat} (ho:o.op=.makeSlice t x y) (ht:d4 t=true) (hte:∀e,(ty t).elem=some e->d4 e=true)
  (hK:N9 a7 s o.dst K t (s.get x) (s.get y)):o.wp Tryd.prog a w (λa' w'=>∃s',Z4 I0 X w0 s' a' w'/\K s') Q:=by
 have hx:=h.get x;have hy:=h.get y;unfold N9 at hK
 split at hK <;> try exact hK.elim
 rename_i k n k' m e1 e2;rw[e1] at hx;rw[e2] at hy
 split at hK <;> try exact hK.elim
 rename_i hnm;have hnm:n=m:=by simpa [a7] using hnm
 subst hnm
 split at hK <;> try exact hK.elim
 rename_i e he
 split at hK <;> try exact hK.elim
 rename_i z hz;obtain⟨⟨h1,h2,h3⟩,z0,hK⟩:=hK;have hke:=hte e he;have hun:=F5 ht he;obtain⟨i,zv,hi,his,hiz,hzc,hzl,hby⟩:=a0G hke
 have hzat:=a45 (s:=⟨s.t,s.o⟩) h (H9 (I:=I) (w:=w) (g:=g) (ty e).zero) (by
  have key:∀ {l:List V} {ds:List D},a3Z [] l=some ds->a3Z s.o l=some ds:=by
   intro l
   induction l with
   | nil=>intro ds h;exact h
   | cons v l ih =>
    intro ds h;rw[a3Z] at h ⊢
    split at h
    ·rename_i y hy
     split at h
     ·rename_i ys hys
      have:toD s.o v=some y:=by
       cases v with
       | own k=>simp[toD,m7] at hy
       | cl f ks=>cases ks <;> exact hy
       | _=>exact hy
      rw[this,ih hys];exact h
     ·cases h
    ·cases h
  exact key hz)
 have hzlen:z.length=(ty e).sz:=by rw[<-hzat.1,hzl]
 obtain⟨N,hN⟩:∃N,N=n.toNat:=⟨_,rfl⟩;rw[<-hN] at h3 hK
 have hrun:=run_makeSlice (P:=Tryd.prog) w t e i zv hun hi hiz k k' n n h1 (Int.le_refl _) (by rw[<-hN,his,<-hzlen];exact h3) (by
  have:(i.bytes:Int) * n<=1024 * 16777216:=Int.mul_le_mul (by omega) h2 h1 (by decide)
  omega) (by omega)
 rw[<-hN] at hrun
 have hcells:(madeCells zv.cells (N * i.size)).toList=(List.replicate N (ty e).zero).flatten:=by
  have:=a4d (ty e).zero.toArray N;have e3:(ty e).zero.toArray.size=(ty e).sz:=by simp[hzl]
  rw[hzc,his,<-e3];exact this
 obtain⟨us,hus⟩:∃us,us=(List.replicate N (ty e).zero).flatten:=⟨_,rfl⟩;have hmade:madeCells zv.cells (N * i.size)=us.toArray:=by apply c4Y;rw[hcells,hus]
 rw[hmade] at hrun;have hul:us.length=N * (ty e).sz:=by rw[hus,b0Z,hzl]
 have hrl:(List.replicate N z).length=N:=List.length_replicate;have hr1:∀r∈List.replicate N z,r.length=(ty e).sz:=λr hr=>by rw[List.eq_of_mem_replicate hr,hzlen]
 have hat:s9 I w us (List.replicate N z).flatten:=by
  refine⟨by rw[hul,b0Z,hzlen],λj u d hu hd=>?_⟩;have hj:j<N * (ty e).sz:=by rw[<-hul];exact(c35.1 hu).1
  have hpos:0<(ty e).sz:=by
   rcases c5X (ty e).sz with h0|h0
   ·rw[h0,Nat.mul_zero] at hj;omega
   ·exact h0
  have hq:j / (ty e).sz<N:=(c5J hpos).2 hj;have hr:j % (ty e).sz<(ty e).sz:=Nat.mod_lt _ hpos;have ej:j / (ty e).sz * (ty e).sz+j % (ty e).sz=j:=by rw[Nat.mul_comm];exact c5T j _
  rw[hus,<-ej,L6 (λr hr=>by rw[List.eq_of_mem_replicate hr,hzl]) (List.getElem?_replicate_of_lt hq) hr] at hu;rw[<-ej,L6 hr1 (List.getElem?_replicate_of_lt hq) hr] at hd;exact hzat.2 _ u d hu hd
 have hb:Below w.heap.size w (w.alloc (.cells us.toArray e)):=(Below.refl _ _).alloc (c3A _) _;have hk:o6 I w (w.alloc (.cells us.toArray e)):=λb k hbk i _=>hb.cell (p:=⟨b,i,none⟩) (h.lt b k hbk).1
 have h4:=h.grow hb (I':=λb k=>I b k\/(z0=true/\b=w.heap.size/\k<=N * (ty e).sz)) (λ_ _ h=>.inl h) (λb k hk=>by
  rcases hk with hk|⟨_,hk,_⟩
  ·exact .inl hk
  ·exact .inr ⟨by omega,by simp[hk]⟩)
 have h5:=h4.newObj (.row z0 e (List.replicate N z)) (.slice (some ⟨w.heap.size,0,none⟩) N N) ⟨us,by
   rw[i7,hrl];refine⟨hul,.inr ⟨w.heap.size,N,us.toArray,rfl,c4e _,heap_alloc_new w _,c3A _,?_,by simp[hul],by simp[<-hul]⟩⟩;unfold maxLen
   omega,hr1,hat.mono (λ_ _ h=>.inl h) hk,λb hb=>by
   rw[i7] at hb;have hb:=Option.some.inj hb;subst hb;refine⟨λhz=>.inr ⟨hz,rfl,by rw[hrl];exact c3A _⟩,λk hk=>?_,.inl h.fr.size⟩
   rcases hk with hk|⟨hz,_,hk⟩
   ·exact absurd (h.lt _ _ hk).1 (c5P _)
   ·exact⟨hz,by rw[hrl];exact hk⟩⟩ (λj b hj hb hb'=>by
   have hb':w.heap.size=b:=hb';have h4:=h.blk_lt hj hb
   omega)
 unfold Oper.wp
 have hex:(execOp a.eval o).run Tryd.prog w=.ok (.value (.slice (some ⟨w.heap.size,0,none⟩) N N)) (w.alloc (.cells us.toArray e)):=by
  unfold execOp;rw[ho];simp only[hx.sc,hy.sc,Sem.run_bind,hrun,Result.andThen_ok,Sem.run_pure]
 rw[hex,Oper.upon_value];exact⟨_,⟨_,_,h5.put (x:=.own (j6 s.o)) (.own _ _ _ _ (by rw[l9,i7];rfl)) _⟩,hK⟩
set_option maxRecDepth 20000 in
theorem b3X {m:Bool} (h:RelI I0 X w0 I g s a w) {o:Oper} {Q:Exit->Act->World->Prop} {K:S->Prop} (hop:Z0 Tryd.prog o.op=true) (hK:step a7 m s o.dst K o.op):o.wp Tryd.prog a w (λa' w'=>∃s',Z4 I0 X w0 s' a' w'/\K s') Q:=by
 obtain⟨dst,op,type,pos,after,gd⟩:=o;simp only at hop hK;unfold step at hK
 split at hK
 ·rename_i e
  split at hK <;> try exact hK.elim
  rename_i h1;have ht:d4 e=true:=hop;obtain⟨z,hz,hzc⟩:=a43 ht w;unfold a62 at hK
  split at hK
  ·refine b7f h (t:=e) (us:=(ty e).zero) ?_ hK;simp only[execOp,Instr.alloc,Sem.run_bind,hz,Result.andThen_ok,newVar,newRow,hzc,newObj,Sem.run,Sem.run_pure];rfl
  ·refine b7e h (t:=e) (H9 (ty e).zero) (a6m I w g h1) ?_ hK;simp only[execOp,Instr.alloc,Sem.run_bind,hz,Result.andThen_ok,newVar,newRow,hzc,newObj,Sem.run,Sem.run_pure];rfl
 ·rename_i e x
  split at hK <;> try exact hK.elim
  rename_i cs hcs;obtain⟨us,hu1,hu2,hu3⟩:=a4C (h.get x) hcs;refine b7e h (t:=e) hu2 hu3 ?_ hK;simp only[execOp,Instr.box,Sem.run_bind,newVar,newRow,hu1,newObj,Sem.run,Sem.run_pure,Result.andThen_ok];rfl
 ·rename_i t x y
  split at hK <;> try exact hK.elim
  have ht:d4 t=true:=hop;unfold F4 at hK
  split at hK <;> try exact hK.elim
  rotate_left
  ·rename_i k i sz off hx
   split at hK <;> try exact hK.elim
   rename_i e rows hok
   split at hK <;> try exact hK.elim
   rename_i hsz;rw[y9] at hsz
   split at hK <;> try exact hK.elim
   rename_i row hrow
   split at hK <;> try exact hK.elim
   rename_i l hl
   split at hK <;> try exact hK.elim
   rename_i ds hds
   split at hK <;> try exact hK.elim
   rename_i hlen
   split at hK <;> try exact hK.elim
   rename_i row' hrow';obtain⟨vs,hv1,hv2,hv3⟩:=a4C (h.get y) hl;have hvd:=a45 h hv2 hds;have hk:=j8 hok (by simp);obtain⟨b,n,cap,cur,hg,hb,hle,h2⟩:=h.setEl hk (b23 hrow).2 hvd hrow'
   have hxv:a.eval x=.pointer (some ⟨b,i.toNat * (ty e).sz+off,none⟩):=by
    have h3:=h.get x;rw[hx] at h3;generalize a.eval x=ax at h3 ⊢;cases h3 with
    | el k i sz off b' n' cap' hg' =>
     rw[hg] at hg';injection hg' with hg'
     injection hg' with hg'
     injection hg' with hg'
     subst hg';rw[hsz]
   rw[y9,y8] at hlen;have hst:=run_storeCells_at Tryd.prog b (i.toNat * (ty e).sz+off) e vs 0 cur w hb (by simpa using hle) hv3;simp only[c4F] at hst;have hsize:=I7 ht w;have hcz:(a.eval y).cells.size=(ty t).sz:=by rw[hv1];simp[hvd.1,hlen]
   rw[y5] at hK;unfold Oper.wp
   have hrun:(execOp a.eval { dst:=none,op:=Op.store t x y,type:=type,pos:=pos,after:=after,guard:=gd }).run Tryd.prog w=.ok .skip (w.setRow b (cur.toList.take (i.toNat * (ty e).sz+off)++vs++cur.toList.drop (i.toNat * (ty e).sz+off+vs.length)).toArray):=by
    simp only[execOp,Instr.storeAt,Instr.sureAddr,hxv,storeVar,Sem.run_bind,Sem.run_pure,Result.andThen_ok,hsize,hcz]
    simp[hv1,hst]
   rw[hrun,Oper.upon_skip];exact⟨_,⟨I,g,h2⟩,hK⟩
  rename_i k off hx
  split at hK <;> try exact hK.elim
  rename_i cs hok
  split at hK <;> try exact hK.elim
  rename_i l hl
  split at hK <;> try exact hK.elim
  rename_i hsz
  split at hK <;> try exact hK.elim
  rename_i cs' hcs';obtain⟨vs,hv1,hv2,hv3⟩:=a4C (h.get y) hl;have hk:=j8 hok (by simp);obtain⟨b,us,t',hg,hb,hle,h2⟩:=h.store hk hv2 hv3 hcs'
  have hxv:a.eval x=.pointer (some ⟨b,off,none⟩):=by
   have h3:=h.get x;rw[hx] at h3;obtain⟨b',hg',h4⟩:=h3.unptr;rw[hg] at hg';injection hg' with hg'
   injection hg' with hg'
   injection hg' with hg'
   subst hg';exact h4
  rw[y9,y8] at hsz;have hst:=run_storeCells_at Tryd.prog b off t' vs 0 us.toArray w hb (by simpa using hle) hv3;simp only[c4F] at hst;have hsize:=I7 ht w;have hcz:(a.eval y).cells.size=(ty t).sz:=by rw[hv1];simp[hv2.1,hsz]
  rw[y5] at hK;unfold Oper.wp
  have hrun:(execOp a.eval { dst:=none,op:=Op.store t x y,type:=type,pos:=pos,after:=after,guard:=gd }).run Tryd.prog w=.ok .skip (w.setRow b (us.take off++vs++us.drop (off+vs.length)).toArray):=by
   simp only[execOp,Instr.storeAt,Instr.sureAddr,hxv,storeVar,Sem.run_bind,Sem.run_pure,Result.andThen_ok,hsize,hcz]
   simp[hv1,hst]
  rw[hrun,Oper.upon_skip];exact⟨_,⟨I,g,h2⟩,hK⟩
 ·rename_i t x y;simp only[Z0,c3D] at hop;exact b9o h rfl hop.1 (a1b hop.2) hK
 ·rename_i t
  split at hK <;> try exact hK.elim
  rename_i hkd
  split at hK <;> try exact hK.elim
  rename_i kt hkt;obtain⟨g',hg,h2⟩:=c2c h (kt:=kt);rw[<-l9] at hg;unfold Oper.wp
  have hrun:(execOp a.eval { dst:=dst,op:=Op.makeMap t none,type:=type,pos:=pos,after:=after,guard:=gd }).run Tryd.prog w=.ok (.value (.map (some w.heap.size))) (w.alloc (.map #[] 0)):=by
   simp only[execOp,Option.map_none,Instr.makeMap,newObj,Sem.run_bind,Sem.run_pure,Result.andThen_ok,Sem.run];rfl
  rw[hrun,Oper.upon_value];exact⟨_,⟨I,g',h2.put (.mp _ _ hg) _⟩,hK⟩
 ·rename_i t x i v
  split at hK <;> try exact hK.elim
  simp only[Z0,c3D] at hop;obtain⟨w',s',hrun,h',hK⟩:=c0T h hop.1 hop.2 (h.get x) (h.get i) (h.get v) hK;unfold Oper.wp
  have hrun':(execOp a.eval { dst:=none,op:=Op.mapUpdate t x i v,type:=type,pos:=pos,after:=after,guard:=gd }).run Tryd.prog w=.ok .skip w':=by
   simp only[execOp,Sem.run_bind,hrun,Result.andThen_ok,Sem.run_pure]
  rw[hrun',Oper.upon_skip];exact⟨_,⟨I,g,h'⟩,hK⟩
 ·rename_i t
  split at hK <;> try exact hK.elim
  rename_i e he;obtain⟨z0,hK⟩:=hK;simp only[Z0,c3D] at hop;have ht:=hop.1.1
  have hke:d4 e=true:=by
   have h2:=hop.2;rw[he] at h2;simp only[c3D] at h2;exact h2.1
  have hun:=F5 ht he;have hsize:=I7 hke w
  have hrun:(execOp a.eval { dst:=dst,op:=Op.buildSlice t 0 ⟨[]⟩,type:=type,pos:=pos,after:=after,guard:=gd }).run Tryd.prog w=.ok (.value (.slice (some ⟨w.heap.size,0,none⟩) 0 0)) (w.alloc (.cells #[] e)):=by
   simp only[execOp,Instr.buildSlice,Sem.run_bind,run_underlying hun,Result.andThen_ok,hsize,Nat.zero_mul,Sem.run_ite,Sem.run_pure];rw[c3G (show ¬(0>2 ^ 24) by decide),c3E True.intro];rw[show (Array.range 0).map (λx=>(#[]:Array Value)[x % (#[]:Array Value).size]!)=#[] from by simp];simp only[Array.map_empty,Instr.fill];rfl
  have hb:Below w.heap.size w (w.alloc (.cells #[] e)):=(Below.refl _ _).alloc (c3A _) _
  have h2:=h.grow hb (I':=λb k=>I b k\/(z0=true/\b=w.heap.size/\k=0)) (λ_ _ h=>.inl h) (λb k hk=>by
   rcases hk with hk|⟨_,hk,_⟩
   ·exact .inl hk
   ·exact .inr ⟨by omega,by simp[hk]⟩)
  have h3:=h2.newObj (.row z0 e []) (.slice (some ⟨w.heap.size,0,none⟩) 0 0) ⟨[],by rw[i7];exact World.ownsRow_made w #[] 0 (c4e _) (c4e _) (by simp),by simp,.nil _ _,λb hb=>by
   rw[i7] at hb;have hb:=Option.some.inj hb;subst hb;refine⟨λhz=>.inr ⟨hz,rfl,by simp⟩,λk hk=>?_,.inl h.fr.size⟩
   rcases hk with hk|⟨hz,_,hk⟩
   ·exact absurd (h.lt _ _ hk).1 (c5P _)
   ·exact⟨hz,by rw[hk];exact c4e _⟩⟩ (λj b hj hb hb'=>by
   have hb':w.heap.size=b:=hb';have h4:=h.blk_lt hj hb
   omega)
  unfold Oper.wp;rw[hrun,Oper.upon_value];exact⟨_,⟨_,_,(RelI.freshly h3).put (x:=.own (j6 s.o)) (.own _ _ _ _ (by rw[l9,i7];rfl)) _⟩,hK⟩
 ·rename_i x y t u;simp only[Z0,c3D] at hop;obtain⟨⟨⟨h1,h2⟩,h3⟩,h4⟩:=hop;rw[y9] at h3;subst h3;refine b55 h rfl h1 (λe he=>?_) hK;rw[he] at h4;simp only[c42] at h4;exact⟨a1b h2 e he,h4⟩
 ·rename_i t n ps
  split at hK
  ·obtain⟨c,hK⟩:=hK;cases c with
   | true=>exact a4G h hop hK
   | false=>exact c0U h rfl hop hK
  ·exact a4G h hop hK
 ·rename_i f args ts
  split at hK
  ·exact a7j h (λhf=>a0L (cs:=[]) rfl rfl hf) (by rw[c3X];exact h.gets args.toList) hK
  ·exact a4G h hop hK
 ·rename_i i args ts
  split at hK
  ·split at hK <;> try exact hK.elim
   rename_i f ks hf;obtain⟨cs,hc1,hc2⟩:=b7c h hf;exact a7j h (λhf=>a0L (cs:=cs) rfl hc1 hf) (by rw[W8];exact(h.gets args.toList).append hc2) hK
  ·exact a4G h hop hK
 ·exact a4G h hop hK
end
end
section
def inD:List (Option Nat)->Nat->Bool
 | [],_=>false
 | some x::l,i=>match H5 x i with|true=>true|false=>inD l i
 | none::l,i=>inD l i
def a9K:Oper->Option Nat
 | ⟨_,.load _ (.tmp i),_,_,_,none⟩=>some i
 | _=>none
def a7k (dsts:List (Option Nat)):Oper->Option Nat
 | ⟨none,.store _ (.tmp i) _,_,_,_,none⟩=>match inD dsts i with|true=>none|false=>some i
 | _=>none
def a68 (f:Oper->Option Nat):List Oper->List Nat
 | []=>[]
 | o::l=>match f o with|some i=>i::a68 f l|none=>a68 f l
def N1:Op->Option Nat
 | .move (.tmp j)=>some j
 | .nilCheck (.tmp j)=>some j
 | .fieldAddr _ (.tmp j) _=>some j
 | .indexAddr _ (.tmp j) _=>some j
 | _=>none
def b7g:List Oper->Nat->Option Nat
 | [],_=>none
 | o::l,i=>match o.dst with
  | some d=>match H5 d i with|true=>N1 o.op|false=>b7g l i
  | none=>b7g l i
def b7h (dsts:List (Option Nat)) (ops:List Oper) (k:Nat):Nat->Nat->Option (List (Nat×Nat))
 | 0,_=>none
 | f+1,i=>match inD dsts i with
  | false=>match H5 i k with|true=>none|false=>some [(i,k)]
  | true=>match b7g ops i with
   | some j=>match b7h dsts ops k f j with|some l=>some ((i,k)::l)|none=>none
   | none=>none
def b27 (dsts:List (Option Nat)) (ops:List Oper) (i:Nat):List Nat->List (Nat×Nat)
 | []=>[]
 | k::ks=>match b7h dsts ops k 8 i with
  | some l=>l++b27 dsts ops i ks
  | none=>b27 dsts ops i ks
def b7i (dsts:List (Option Nat)) (ops:List Oper) (ks:List Nat):List Nat->List (Nat×Nat)
 | []=>[]
 | i::l=>b27 dsts ops i ks++b7i dsts ops ks l
def Q6 (ops:List Oper):List (Nat×Nat):=match a68 (a7k (l8 ops)) ops with
 | []=>[]
 | k::ks=>b7i (l8 ops) ops (k::ks) (a68 a9K ops)
def b3Y (prs:List (Nat×Nat)) (o:Oper):Bool:=match o.dst with
 | none=>true
 | some d=>prs.all λp=>a1S (H5 d p.2) && (a1S (H5 d p.1) || match N1 o.op with|some j=>prs.contains (j,p.2)|none=>false)
def F6:V->V->Bool
 | .ptr j _,.ptr m _=>a1S (H5 j m)
 | .el j _ _ _,.el m _ _ _=>a1S (H5 j m)
 | .own j,.el m _ _ _=>a1S (H5 j m)
 | .bs j _,.ptr m _=>a1S (H5 j m)
 | _,_=>true
def b1a:List (Nat×Nat)->List V->Bool
 | [],_=>true
 | (i,k)::l,t=>match F6 (m5 t i) (m5 t k) with|true=>b1a l t|false=>false
def a2d (o:Oper):List Nat:=(o.after.toList.filter λe=>Region.binds .any e).map (·.on)
def H1:List Oper->List (List Nat)->List (List Nat)
 | [],acc=>acc
 | o::l,acc=>H1 l (acc++[(a2d o).flatMap λj=>j::acc.getD j []])
def a6n (ops:List Oper) (i:Nat):Bool :=
 let an:=H1 ops []
 (List.range ops.length).all λj=>Nat.beq j i || (Nat.blt j i && (an.getD i []).contains j) || (Nat.blt i j && (an.getD j []).contains i)
def emL:List V->Bool
 | []=>false
 | .em::_=>true
 | _::l=>emL l
def emA:List V->Bool
 | []=>false
 | .em::_=>true
 | .ag cs::l=>match emL cs with|true=>true|false=>emA l
 | _::l=>emA l
def emB (b:Bool) (vs:List V):Bool:=match b with|true=>emA vs|false=>false
def a4H (b:Bool) (s:S) (x:Operand) (args:List Operand):Option (Nat×List V):=match fnV (s.get x) with
 | some (f,ks)=>match emB b (J7 s.get args) with
  | true=>some (f,a1X (J7 s.get args) (a6K ks))
  | false=>match a0E s.o (a1X (J7 s.get args) (a6K ks)) with
   | some _=>none
   | none=>some (f,a1X (J7 s.get args) (a6K ks))
 | none=>none
def a5E:Op->Bool
 | .move _=>true
 | .assign _=>true
 | .pick _ _ _=>true
 | .fieldAddr _ _ _=>true
 | .field _ _ _=>true
 | .index _ _ _=>true
 | .binOp _ _ _ _ _=>true
 | .unOp _ _ _=>true
 | .convert _ _ _=>true
 | .build _ _=>true
 | .extract _ _=>true
 | .makeFunc _ _ _=>true
 | .nilCheck _=>true
 | _=>false
def tmps:List Operand->List Nat
 | []=>[]
 | .tmp t::l=>t::tmps l
 | _::l=>tmps l
def looks (dsts:List (Option Nat)) (o:Oper):List Nat:=(match o.guard with
 | some (j,_)=>match getD dsts j with|some d=>[d]|none=>[]
 | none=>[])++tmps o.op.operands.toList
def L7 (d:Option Nat) (l:List Nat):Bool:=match d with|some x=>!l.contains x|none=>true
def a1c (dsts:List (Option Nat)):Oper->Option (List Nat)
 | ⟨_,.load _ (.tmp k),_,_,_,none⟩=>match inD dsts k with|true=>none|false=>some [k]
 | o=>match a5E o.op with|true=>some []|false=>none
def a69:Op->Bool
 | .call ⟨.value _,_,_⟩=>true
 | _=>false
def Q7 (dsts:List (Option Nat)) (an:List (List Nat)) (i:Nat) (oi:Oper):Nat->List Oper->Option (List Nat)
 | _,[]=>some []
 | j,o::l=>match Nat.beq j i with
  | true=>Q7 dsts an i oi (j+1) l
  | false=>match Nat.blt j i with
   | true=>match (an.getD i []).contains j with
    | true=>Q7 dsts an i oi (j+1) l
    | false=>match L7 o.dst (looks dsts oi) && L7 oi.dst (looks dsts o) && (o.dst.isNone || o.dst != oi.dst) with
     | true=>match a1c dsts o with
      | some ks=>match Q7 dsts an i oi (j+1) l with|some ms=>some (ks++ms)|none=>none
      | none=>none
     | false=>none
   | false=>match (an.getD j []).contains i with
    | true=>Q7 dsts an i oi (j+1) l
    | false=>none
def a2e (all:List Oper) (i:Nat):Option (List Nat):=match H8 1 (L5 i all) with
 | some [oi]=>match a69 oi.op && oi.guard.isNone with
  | true=>Q7 (l8 all) (H1 all []) i oi 0 all
  | false=>none
 | _=>none
def a8E (all:List Oper) (i:Nat):Bool:=match a6n all i with
 | true=>true
 | false=>match a2e all i with|some _=>true|none=>false
def stepD (a:Ar) (all:List Oper) (i:Nat) (s:S) (dst:Option Nat) (K:S->Prop):Op->Prop
 | .call ⟨.value x,args,ts⟩=>match a4H (a8E all i) s x args.toList with
  | some (f,vs)=>match a6n all i with
   | true=>a.callo f vs s (λv s'=>K (s'.put dst v))
   | false=>match a2e all i with
    | some l=>a.callx f vs l s (λv s'=>K (s'.put dst v))
    | none=>step a false s dst K (.call ⟨.value x,args,ts⟩)
  | none=>step a false s dst K (.call ⟨.value x,args,ts⟩)
 | op=>step a false s dst K op
def L8 (a:Ar) (dsts:List (Option Nat)) (all:List Oper) (i:Nat):Oper->S->(S->Prop)->Prop
 | ⟨dst,op,_,_,_,none⟩,s,K=>stepD a all i s dst K op
 | ⟨dst,op,_,_,_,some (j,b)⟩,s,K=>guard s dsts j fun
  | some c=>match bEq c b with
   | true=>stepD a all i s dst K op
   | false=>K (s.put dst Y9)
  | none=>K (s.put dst Y9)
def a63 (a:Ar) (dsts:List (Option Nat)) (all:List Oper):Nat->List Oper->S->(S->Prop)->Prop
 | _,[],s,K=>K s
 | i,o::l,s,K=>L8 a dsts all i o s (λs=>a63 a dsts all (i+1) l s K)
def c0t:Op->Bool
 | .alloc _=>true
 | .buildSlice _ (_+1) _=>true
 | _=>false
def a9L:Bool->List Oper->Bool
 | _,[]=>false
 | c,o::l=>match c0t o.op with
  | true=>match c with|true=>true|false=>a9L c l
  | false=>match c with|true=>a9L true l|false=>a9L (a69 o.op) l
def a7l (an:List (List Nat)) (al:Oper->Bool) (cl:Oper->Bool) (ops:List Oper):Bool :=
 (List.range ops.length).any λj=>match ops[j]? with
  | some oj=>al oj && (List.range j).any λi=>match ops[i]? with
   | some oi=>cl oi && !((an.getD j []).contains i)
   | none=>false
  | none=>false
def c0V (dsts:List (Option Nat)):Oper->Bool
 | ⟨_,.store _ (.tmp k) _,_,_,_,none⟩=>inD dsts k
 | _=>false
def b7j:Oper->Bool
 | ⟨_,.load _ _,_,_,_,none⟩=>true
 | _=>false
def c0W (f:Oper->Bool):List Oper->Bool
 | []=>false
 | o::l=>match f o with|true=>true|false=>c0W f l
def c0u (ops:List Oper):Bool:=match c0W (c0V (l8 ops)) ops with
 | false=>false
 | true=>match c0W b7j ops with
  | false=>false
  | true=>match a7l (H1 ops []) (c0V (l8 ops)) b7j ops with
   | true=>true
   | false=>a7l (H1 ops []) b7j (c0V (l8 ops)) ops
def b9p (ops:List Oper):Bool:=match a9L false ops with
 | false=>c0u ops
 | true=>match a7l (H1 ops []) (λo=>c0t o.op) (λo=>a69 o.op) ops with
  | true=>true
  | false=>c0u ops
def x5 (a:Ar):Code->S->(X->S->Prop)->Prop
 | .skip,s,K=>K .normal s
 | .region _ ops d,s,K=>match d with
  | false=>a06 a (l8 ops.toList) ops.toList s (λs=>K .normal s)
  | true=>match orB (c0o s.o) (b9p ops.toList) with
   | true=>a.reg ops s (λs=>K .normal s)
   | false=>match b1a (Q6 ops.toList) s.t with
    | true=>a63 a (l8 ops.toList) ops.toList 0 ops.toList s (λs=>K .normal s)
    | false=>False
 | .seq c d,s,K=>x5 a c s (λx s=>b0M (λs=>a.next (λs=>x5 a d s K) s) K x s)
 | .cond c d e,s,K=>match s.get c with
  | .d (.sc (.bool b))=>match b with
   | true=>x5 a d s K
   | false=>x5 a e s K
  | _=>False
 | .block id c,s,K=>x5 a c s (λx s=>a12 id K x s)
 | .exit i,s,K=>K (.exit i) s
 | .ret,s,K=>K .ret s
 | .loop c,s,K=>a.loop c (λs K=>x5 a c s K) s K
 | _,_,_=>False
def b3Z (P:Program) (ops:List Oper):Bool:=ops.all λo=>Z0 P o.op
section
variable {I0:Nat->Nat->Prop} {X:Nat->Prop} {w0:W0} {I:Nat->Nat->Prop} {g:Nat->Value} {s:S} {a:Act} {w:World}
def a2J (n:Nat) (g:Nat->Value):Nat->Value:=λk=>if k<n then g k else .nilFunc
theorem a0n {g':Nat->Value} {n:Nat} (hg:∀k,k<n->g' k=g k) {v:Value} {x:V} (h:AtV I w g v x) (hl:a2x n x=true):AtV I w g' v x:=by
 cases h with
 | d h=>exact .d h
 | ag us cs h1 h2=>cases hl
 | tu us cs h1 h2=>cases hl
 | em=>exact .em
 | own k A m cap h=>exact .own k A m cap ((congrArg gv (hg k (by simpa [a2x,c42] using hl))).trans h)
 | ptr k off b h=>exact .ptr k off b ((hg k (by simpa [a2x,c42] using hl)).trans h)
 | cl f us ks hu h =>
  rw[a2x] at hl
  exact .cl f us ks hu λi u k hi hk=>by
   obtain⟨h1,b,h2⟩:=h i u k hi hk;have h3:=hg k (a9D hl hk);exact⟨h1.trans h3.symm,b,h3.trans h2⟩
 | el k i sz off b m cap h=>exact .el k i sz off b m cap ((hg k (by simpa [a2x,c42] using hl)).trans h)
 | ro b o off us cs h1 h2 h3=>exact .ro b o off us cs h1 h2 h3
 | mp k b h=>exact .mp k b ((hg k (by simpa [a2x,c42] using hl)).trans h)
 | bs k n' b cap h hn=>exact .bs k n' b cap ((hg k (by simpa [a2x,c42] using hl)).trans h) hn
 | jk v=>exact .jk v
theorem a6A {g':Nat->Value} {n:Nat} (hg:∀k,k<n->g' k=g k):∀ {cs:List V} {us:List Value},j2 I w g us cs->a6P n cs=true->j2 I w g' us cs
 | [],us,h,_=>by rw[h.unnil];exact .nil I w g'
 | c::cs,us,h,hl=>by
  obtain⟨u,us',rfl,h1,h2⟩:=h.uncons;rw[a6P] at hl
  split at hl
  ·rename_i hc;exact .cons (a0n hg h1 hc) (a6A hg h2 hl)
  ·cases hl
theorem b4a {g':Nat->Value} {n:Nat} (hg:∀k,k<n->g' k=g k) {v:Value} {x:V} (h:AtV I w g v x) (hl:c0K n x=true):AtV I w g' v x:=by
 cases x with
 | ag cs=>obtain⟨us,rfl,h2⟩:=h.unag;exact a07 (a6A hg h2 hl)
 | tu cs =>
  cases cs with
  | nil =>
   obtain⟨us,rfl,h2⟩:=h.untu;rw[h2.unnil];exact a0U (.nil I w g')
  | cons c cs=>cases hl
 | d x=>exact a0n hg h hl
 | em=>exact a0n hg h hl
 | own k=>exact a0n hg h hl
 | ptr k off=>exact a0n hg h hl
 | cl f ks=>exact a0n hg h hl
 | el k i sz off=>exact a0n hg h hl
 | ro cs off=>exact a0n hg h hl
 | mp k=>exact a0n hg h hl
 | bs k n'=>exact a0n hg h hl
 | jk=>exact .jk _
theorem a9M {g':Nat->Value} {n:Nat} (hg:∀k,k<n->g' k=g k):∀ {cs:List V} {us:List Value},j2 I w g us cs->a9C n cs=true->j2 I w g' us cs
 | [],us,h,_=>by rw[h.unnil];exact .nil I w g'
 | c::cs,us,h,hl=>by
  obtain⟨u,us',rfl,h1,h2⟩:=h.uncons;rw[a9C] at hl
  split at hl
  ·rename_i hc;exact .cons (b4a hg h1 hc) (a9M hg h2 hl)
  ·cases hl
theorem a4I:∀ {l m:List V} {us:List Value},j2 I w g us l->a6k l m->j2 I w g us m
 | [],[],us,h,_=>h
 | [],_::_,us,h,hw=>by cases hw
 | x::l,[],us,h,hw=>by cases hw
 | x::l,y::m,us,h,hw=>by
  obtain⟨u,us',rfl,h1,h2⟩:=h.uncons
  by_cases hy:y=.jk
  ·subst hy;exact .cons (.jk _) (a4I h2 hw)
  ·have hw':x=y/\a6k l m:=by
    cases y <;> first|exact absurd rfl hy|exact hw
   exact .cons (hw'.1 ▸ h1) (a4I h2 hw'.2)
theorem b4b:∀ {l m:List Nat},b5y l m=true->∀j∈l,j∈m
 | [],m,_,j,hj=>by simp at hj
 | k::l,m,h,j,hj=>by
  rw[b5y] at h
  split at h
  ·rename_i hk
   rcases c3F.1 hj with rfl|hj
   ·exact a3v.1 hk
   ·exact b4b h j hj
  ·cases h
theorem a8F:∀ {l m:List O},a3M l m->m.length<=l.length/\∀(k:Nat) (o':O),m[k]?=some o'->o'=O.dead\/(∃cs ds,l[k]?=some (.box cs)/\o'=.box ds/\a6k cs ds)\/(∃ks js,l[k]?=some (.kl ks)/\o'=.kl js/\b5y ks js=true)\/(l[k]?=some o'/\(∀cs,o'≠.box cs)/\∀ks,o'≠.kl ks)
 | l,[],_=>⟨c4e _,λk o' h=>by simp at h⟩
 | [],y::m,h=>by cases y <;> cases h
 | x::l,y::m,h=>by
  have key:a3M l m/\(y=.dead\/(∃cs ds,x=.box cs/\y=.box ds/\a6k cs ds)\/(∃ks js,x=.kl ks/\y=.kl js/\b5y ks js=true)\/(x=y/\(∀cs,y≠.box cs)/\∀ks,y≠.kl ks)):=by
   cases y with
   | dead=>cases x <;> exact⟨h,.inl rfl⟩
   | box ds=>cases x <;> first|exact⟨h.2,.inr (.inl ⟨_,_,rfl,rfl,h.1⟩)⟩|cases h
   | kl js=>cases x <;> first|exact⟨h.2,.inr (.inr (.inl ⟨_,_,rfl,rfl,h.1⟩))⟩|cases h
   | row z e r =>
    cases x with
    | row z2 e2 r2 =>
     obtain⟨⟨rfl,rfl,rfl⟩,h2⟩:=h;exact⟨h2,.inr (.inr (.inr ⟨rfl,by simp,by simp⟩))⟩
    | _=>exact h.elim
   | mp kt es =>
    cases x with
    | mp kt2 es2 =>
     obtain⟨⟨rfl,rfl⟩,h2⟩:=h;exact⟨h2,.inr (.inr (.inr ⟨rfl,by simp,by simp⟩))⟩
    | _=>exact h.elim
   | it P =>
    cases x with
    | it P2 =>
     obtain⟨rfl,h2⟩:=h;exact⟨h2,.inr (.inr (.inr ⟨rfl,by simp,by simp⟩))⟩
    | _=>exact h.elim
   | ob T vs =>
    cases x with
    | ob T2 vs2 =>
     obtain⟨⟨rfl,rfl⟩,h2⟩:=h;exact⟨h2,.inr (.inr (.inr ⟨rfl,by simp,by simp⟩))⟩
    | _=>exact h.elim
  obtain⟨h1,h2⟩:=a8F key.1;refine⟨by simp;exact h1,λk o' hk=>?_⟩;cases k with
  | zero =>
   simp at hk
   subst hk
   rcases key.2 with h|⟨cs,ds,rfl,h4,h5⟩|⟨ks,js,rfl,h4,h5⟩|⟨rfl,h4⟩
   ·exact .inl h
   ·exact .inr (.inl ⟨cs,ds,rfl,h4,h5⟩)
   ·exact .inr (.inr (.inl ⟨ks,js,rfl,h4,h5⟩))
   ·exact .inr (.inr (.inr ⟨rfl,h4⟩))
  | succ k=>simpa using h2 k o' (by simpa using hk)
theorem RelI.weak (h:RelI I0 X w0 I g s a w) {s':S} (hn:w0.n<=s'.o.length) (hw:weak s s'):RelI I0 X w0 I (a2J s'.o.length g) s' a w:=by
 obtain⟨h1,h2,h3,h4⟩:=hw;obtain⟨hlen,hobj⟩:=a8F h2;rw[l9] at h3 h4;have hg:∀k,k<s'.o.length->a2J s'.o.length g k=g k:=λk hk=>c3E hk
 refine⟨h.im,h.lt,h.fr,h.kp,hn,λk hk hr=>(hg k (by omega)).trans (h.st k hk hr),λk o ho=>?_,λj k b hj hk hbj hbk=>?_,λk hk=>c3G (by omega),a9M hg (a4I h.tmp h1) h3,h.dfr⟩
 ·have hk:k<s'.o.length:=(c35.1 ho).1
  rcases hobj k o ho with rfl|⟨cs,ds,h5,rfl,h6⟩|⟨ks,js,h5,rfl,h6⟩|⟨h5,hnb,hnk⟩
  ·exact True.intro
  ·obtain⟨b,us,t,e1,e2,e3,e4⟩:=h.obj k _ h5;exact⟨b,us,t,(hg k hk).trans e1,e2,a6A hg (a4I e3 h6) (a48 h4 ho),e4⟩
  ·obtain⟨us,e1,e2,e3⟩:=h.obj k _ h5;refine⟨us,(hg k hk).trans e1,e2,λj u hu=>?_⟩;have hj:=(c3L.1 hu).1
   rcases e3 j u hu with e4|e4|e4
   ·exact .inl e4
   ·exact .inr (.inl ((hg j (by omega)).trans e4))
   ·exact .inr (.inr (b4b h6 j e4))
  ·cases o with
   | dead=>exact True.intro
   | box cs=>exact absurd rfl (hnb cs)
   | kl ks=>exact absurd rfl (hnk ks)
   | row z e r =>
    obtain⟨us,e1,e2,e3,e4⟩:=h.obj k _ h5;exact⟨us,by rw[hg k hk];exact e1,e2,e3,by rw[hg k hk];exact e4⟩
   | mp kt es =>
    obtain⟨b,l,c,e1,e2⟩:=h.obj k _ h5;exact⟨b,l,c,(hg k hk).trans e1,e2⟩
   | ob T vs =>
    obtain⟨b,e1,e2⟩:=h.obj k _ h5;exact⟨b,(hg k hk).trans e1,e2⟩
   | it P =>
    obtain⟨A,n,cap,F,e1,e2⟩:=h.obj k _ h5;exact⟨A,n,cap,F,(hg k hk).trans e1,e2⟩
 ·have live':∀j,B1 s' j->j<s'.o.length/\B1 s j:=λj ⟨o,ho,hd⟩=>by
   refine⟨(c35.1 ho).1,?_⟩
   rcases hobj j o ho with rfl|⟨cs,ds,h5,_,_⟩|⟨ks,js,h5,_,_⟩|⟨h5,_⟩
   ·exact absurd rfl hd
   ·exact⟨_,h5,by simp⟩
   ·exact⟨_,h5,by simp⟩
   ·exact⟨_,h5,hd⟩
  obtain⟨hj1,hj2⟩:=live' j hj;obtain⟨hk1,hk2⟩:=live' k hk;rw[hg j hj1] at hbj;rw[hg k hk1] at hbk;exact h.dis j k b hj2 hk2 hbj hbk
theorem Z4.weak (h:Z4 I0 X w0 s a w) {s':S} (hn:w0.n<=s'.o.length) (hw:s=s'\/weak s s'):Z4 I0 X w0 s' a w:=by
 obtain⟨I,g,h⟩:=h
 rcases hw with rfl|hw
 ·exact⟨I,g,h⟩
 ·exact⟨I,_,h.weak hn hw⟩
theorem b1b:∀(l:List Oper) (j:Nat) (d:Nat),getD (l8 l) j=some d->(l[j]?).bind (·.dst)=some d
 | [],j,d,h=>by cases h
 | o::l,0,d,h=>by simpa [l8,getD] using h
 | o::l,j+1,d,h=>by rw[l8,getD] at h;simpa using b1b l j d h
theorem a7m (h:Z4 I0 X w0 s a w) {ops:Array Oper} {j:Nat} {K:Option Bool->Prop} (hK:guard s (l8 ops.toList) j K):∃c,yielded ops a.tmps j=c/\K c:=by
 obtain⟨I,g,h⟩:=h;unfold guard at hK
 split at hK <;> try exact hK.elim
 rename_i d hd;have hdst:=b1b _ _ _ hd;rw[c4w] at hdst
 have tmp:∀x,m5 s.t d=x->x≠.jk->∃v,a.tmps[d]?=some v/\AtV I w g v x:=λx hx hj=>by
  have h1:=K6 hx hj;have hlt:d<a.tmps.toList.length:=by rw[h.tmp.1];exact(c35.1 h1).1
  exact⟨a.tmps.toList[d],by rw[<-c4w];exact c39 hlt,h.tmp.2 d _ _ (c39 hlt) h1⟩
 split at hK <;> try exact hK.elim
 ·rename_i c hc;obtain⟨v,h1,h2⟩:=tmp _ hc (by simp);obtain rfl:=h2.sc;exact⟨some c,by simp[yielded,hdst,h1],hK⟩
 ·rename_i hc;obtain⟨v,h1,h2⟩:=tmp _ hc (by simp);obtain⟨us,rfl,h3⟩:=h2.untu;rw[h3.unnil] at h1;exact⟨none,by simp[yielded,hdst,h1],hK⟩
theorem b9q {ro:Option Nat} {n:Nat} {P:Program} {f:FuncId} {args:Array Value} {w:World} {R:Ending->World->Prop} (h:Calls P f args w R):CallsIn (FW ro) n P f args w R:=callsIn_wide.2 h
theorem b1c {ro:Option Nat} {n:Nat} {P:Program} {o:Oper} {a:Act} {w:World} {next:Act->World->Prop} {Q:Exit->Act->World->Prop} (hd:∀c,o.op≠.defer c) (h:o.wp P a w next Q):o.wpIn (FW ro) n P a w next Q:=by
 refine⟨λ_ _=>trivial,?_⟩;rw[Oper.semAt_eq _ _ _ hd];unfold Oper.wp at h;generalize (execOp a.eval o).run P w=r at h ⊢;cases r with
 | ok x w' =>
  cases x with
  | enter f args=>exact⟨λh=>(by cases h),b9q h⟩
  | row f args=>exact⟨λh=>(by cases h),λc cs _=>let ⟨v,w2,h1,h2⟩:=h c cs;⟨v,w2,h1,stepsIn_wide.2 h2⟩⟩
  | value v=>exact h
  | skip=>exact h
  | defer d=>exact h
  | _=>exact h.elim
 | halt x w'=>cases x <;> exact h
theorem a2K {P:Program} {op:Op} (h:Z0 P op=true) (c:Call) (hc:op=.defer c):False:=by subst hc;cases h
theorem b1d (h:Z4 I0 X w0 s a w) {o:Oper} {Q:Exit->Act->World->Prop} {K:S->Prop} (hop:Z0 Tryd.prog o.op=true) (hK:step1 a7 s o.dst K o.op):o.wp Tryd.prog a w (λa' w'=>∃s',Z4 I0 X w0 s' a' w'/\K s') Q:=by
 unfold step1 at hK
 split at hK
 ·exact hK I0 X w0 a w o Q rfl rfl hop h
 ·obtain⟨I,g,h⟩:=h;exact b3X h hop hK
theorem b28 {ro:Option Nat} {n:Nat} {ops:Array Oper} {Q:Exit->Act->World->Prop} {K:S->Prop} (hQ:∀s' a' w',Z4 I0 X w0 s' a' w'->K s'->Q .normal a' w'):∀(l:List Oper) (s:S) (a:Act) (w:World),(∀o∈l,Z0 Tryd.prog o.op=true)->Z4 I0 X w0 s a w->a06 a7 (l8 ops.toList) l s K->wpListIn (FW ro) n Tryd.prog ops Q l a w
 | [],s,a,w,_,h,hK=>hQ _ _ _ h hK
 | ⟨dst,op,type,pos,after,gd⟩::l,s,a,w,hok,h,hK=>by
  have hop:=hok _ (c38 ..);have hrest:∀a' w',(∃s',Z4 I0 X w0 s' a' w'/\a06 a7 (l8 ops.toList) l s' K)->wpListIn (FW ro) n Tryd.prog ops Q l a' w':=λa' w' ⟨s',h1,h2⟩=>b28 hQ l s' a' w' (λo ho=>hok o (c36 _ ho)) h1 h2
  have hstep:∀ {Kw:Act->World->Prop},(∀a w,wpListIn (FW ro) n Tryd.prog ops Q l a w->Kw a w)->step1 a7 s dst (λs=>a06 a7 (l8 ops.toList) l s K) op->Oper.wpIn (FW ro) n Tryd.prog ⟨dst,op,type,pos,after,gd⟩ a w Kw Q:=λhKw hs=>by
   obtain⟨I,g,h⟩:=h;exact b1c (λc hc=>a2K hop c hc) (Oper.wp_mono (λa' w' hx=>hKw _ _ (hrest a' w' hx)) (b1d ⟨I,g,h⟩ (o:=⟨dst,op,type,pos,after,gd⟩) (Q:=Q) hop hs))
  have hskip:a06 a7 (l8 ops.toList) l (s.put dst Y9) K->wpListIn (FW ro) n Tryd.prog ops Q l (a.put dst undef) w:=λhs=>by
   obtain⟨I,g,h⟩:=h;exact b28 hQ l _ _ w (λo ho=>hok o (c36 _ ho)) ⟨I,g,h.put (x:=Y9) (.tu [] [] rfl (λi u c hu _=>by simp at hu)) dst⟩ hs
  refine wpListIn_step λKw hKw=>?_
  cases gd with
  | none =>
   rw[c3E (by rfl)];rw[a06] at hK;exact hstep hKw hK
  | some jb =>
   obtain⟨j,b⟩:=jb;rw[a06] at hK;obtain⟨c,hc,hK⟩:=a7m h hK;have hw:Region.wanted ⟨dst,op,type,pos,after,some (j,b)⟩ (yielded ops a.tmps)=(c == some b):=by simp[Region.wanted,hc]
   rw[hw];cases c with
   | none =>
    rw[c3G (by simp)];exact⟨λ_ _=>trivial,hKw _ _ (hskip hK)⟩
   | some c =>
    simp only at hK
    split at hK
    ·rename_i hb;rw[a08] at hb;rw[c3E (by simpa using hb)];exact hstep hKw hK
    ·rename_i hb;rw[a08] at hb;rw[c3G (by simpa using hb)];exact⟨λ_ _=>trivial,hKw _ _ (hskip hK)⟩
end
end
end Go.Proofs.YtlofmibkljoapaaDoor.Vm
end
