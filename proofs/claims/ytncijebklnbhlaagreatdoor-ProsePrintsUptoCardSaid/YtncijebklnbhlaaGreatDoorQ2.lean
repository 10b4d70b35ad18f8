/- Part 2 of the proof. Conditions: none. -/
import Derived.Test.YtncijebklnbhlaaGreatDoorQ1
import Derived.Lib.ConvBytes
import Derived.Laws.BytesString
import Derived.Deep.LoopGhost
import Derived.Sort.LoopGhostIn
import Derived.OrdersIn
import Derived.TacticsIn
import Derived.RangeFuncCalls
set_option linter.all false
set_option linter.unusedVariables false
set_option linter.unusedSimpArgs false
section
namespace Go.Proofs.YtncijebklnbhlaaGreatDoor.Vm
open Go.RowKit
set_option maxRecDepth 100000
set_option maxHeartbeats 4000000
section
section
variable {I0:Nat->Nat->Prop} {X:Nat->Prop} {w0:W0} {I:Nat->Nat->Prop} {g:Nat->Value} {s:S} {a:Act} {w:World}
theorem a1q (b:Bool):a1h b=!b:=by cases b <;> rfl
theorem b46 (a b:Bool):orB a b=(a || b):=by cases a <;> rfl
theorem b8B (h:RelI I0 X w0 I g s a w) {K:V->Prop} {op:BinOp} {t:Nat} (ox oy:Operand) {x y:Value} (hK:a50 j1 op x y K):Yld I0 X w0 g s a w (do eqGuard op t ox oy x y;binOp op t x y) K:=by
  unfold a50 at hK
  split at hK <;> try exact hK.elim
  · rename_i K k m k' n
    split at hK
    · rename_i hb
      have key:∀r,a5z op k m k' n=some r->(do eqGuard op t ox oy (.int k m) (.int k' n);binOp op t (.int k m) (.int k' n)).run Tryz.prog w=.ok (.int k r) w:=by
        intro r hr;unfold a5z at hr
        split at hr
        · cases n with
          | ofNat n =>
            injection hr with hr;subst hr;have h0:¬(Int.ofNat n<0):=by simp
            simp only[eqGuard,binOp,Op.shift,if_neg h0];rfl
          | negSucc n=>cases hr
        · cases n with
          | ofNat n =>
            injection hr with hr;subst hr;have h0:¬(Int.ofNat n<0):=by simp
            simp only[eqGuard,binOp,Op.shift,if_neg h0];rfl
          | negSucc n=>cases hr
        all_goals first
          | (exfalso;cases hr;done)
          | (split at hr
             · rename_i hk
               obtain rfl:=a5J hk;injection hr with hr;subst hr;simp only[eqGuard,binOp,Op.intBits,ne_eq,not_true,if_false];rfl
             · cases hr)
      rw[show j1.bits op k m k' n=a5z op k m k' n from rfl] at hK;cases hr:a5z op k m k' n with
      | none=>rw[hr] at hK;exact hK.elim
      | some r =>
        rw[hr] at hK;exact Y5 h (key r hr) (ati k _) hK
    split at hK <;> try exact hK.elim
    rename_i hk;obtain rfl:=a5J hk;unfold b0I at hK
    split at hK <;> try exact hK.elim
    · exact Y5 h (by simp[eqGuard,binOp,Op.intArith];rfl) (ati k _) hK
    · exact Y5 h (by simp[eqGuard,binOp,Op.intArith];rfl) (ati k _) hK
    · exact Y5 h (by simp[eqGuard,binOp,Op.intArith];rfl) (ati k _) hK
    · have h0:n≠0:=hK.1
      exact Y5 h (by simp[eqGuard,binOp,Op.intDiv,h0];rfl) (ati k _) hK.2
    · have h0:n≠0:=hK.1
      exact Y5 h (by simp[eqGuard,binOp,Op.intDiv,h0];rfl) (ati k _) hK.2
    · exact Y5 h (by simp[eqGuard,binOp,Op.intCmp];rfl) (atb _) hK
    · refine Y5 h ?_ (atb _) hK
      simp[eqGuard,binOp,Op.intCmp,a1q]
      rfl
    · exact Y5 h (by simp[eqGuard,binOp,Op.intCmp];rfl) (atb _) hK
    · exact Y5 h (by simp[eqGuard,binOp,Op.intCmp];rfl) (atb _) hK
    · exact Y5 h (by simp[eqGuard,binOp,Op.intCmp];rfl) (atb _) hK
    · exact Y5 h (by simp[eqGuard,binOp,Op.intCmp];rfl) (atb _) hK
  · rename_i K b c
    unfold b0J at hK
    split at hK <;> try exact hK.elim
    · have h0:b.size+c.size<=4611686018427387904:=hK.1
      have h1:¬(((b.size+c.size:Nat):Int)>9223372036854775807):=by omega
      refine Y5 h ?_ (ats _) hK.2;simp only[eqGuard,binOp,Op.stringOp,IntKind.max_i64];rw[if_neg h1];rfl
    all_goals
      refine Y5 h ?_ (atb _) hK;simp only[eqGuard,binOp,Op.stringOp,a1q,b46];rfl
theorem a4r (h:RelI I0 X w0 I g s a w) {K:V->Prop} {op:BinOp} {t:Nat} (ox oy:Operand) {x y:Value} {b:Bool} (h0:∀p q,x≠.int p q) (h1:∀p q,y≠.int p q) (hx:(∃p,x=.pointer p)\/(∃p,x=.bool p)\/∃A n c,x=.slice A n c) (he:(Op.equal t x y).run Tryz.prog w=.ok b w) (hK:a1G b K op):Yld I0 X w0 g s a w (do eqGuard op t ox oy x y;binOp op t x y) K:=by
 have hg:(eqGuard op t ox oy x y).run Tryz.prog w=.ok () w:=by
  unfold eqGuard;cases op <;> rcases hx with⟨p,rfl⟩|⟨p,rfl⟩|⟨A,n,c,rfl⟩ <;> rfl
 cases op <;> try exact hK.elim
 ·refine Y5 h ?_ (atb _) hK;simp only[Sem.run_bind,hg,Result.andThen_ok]
  rcases hx with⟨p,rfl⟩|⟨p,rfl⟩|⟨A,n,c,rfl⟩ <;> cases y <;> first|exact absurd rfl (h1 _ _)|simp[binOp,he]
 ·refine Y5 h ?_ (atb _) hK;simp only[Sem.run_bind,hg,Result.andThen_ok]
  rcases hx with⟨p,rfl⟩|⟨p,rfl⟩|⟨A,n,c,rfl⟩ <;> cases y <;> first|exact absurd rfl (h1 _ _)|simp[binOp,he,a1q]
theorem c0i (h:RelI I0 X w0 I g s a w) {K:V->Prop} {op:BinOp} {t:Nat} (ox oy:Operand) {x y:Array Value} {b:Bool} (hq:Tryz.prog.eqGuardType Tryz.prog.depth t=false) (he:(Op.equal t (.agg x) (.agg y)).run Tryz.prog w=.ok b w) (hK:a1G b K op):Yld I0 X w0 g s a w (do eqGuard op t ox oy (.agg x) (.agg y);binOp op t (.agg x) (.agg y)) K:=by
 generalize hP:Tryz.prog=P at *
 have hg:∀op,(op=.eql\/op=.neq)->(eqGuard op t ox oy (.agg x) (.agg y)).run P w=.ok () w:=by
  intro op ho
  rcases ho with rfl|rfl <;> simp[eqGuard,hq]
 subst hP;cases op <;> try exact hK.elim
 ·refine Y5 h ?_ (atb _) hK;simp only[Sem.run_bind,hg _ (.inl rfl),Result.andThen_ok];simp only[binOp,Sem.run_bind,he,Result.andThen_ok,Sem.run_pure]
 ·refine Y5 h ?_ (atb _) hK;simp only[Sem.run_bind,hg _ (.inr rfl),Result.andThen_ok];simp only[binOp,Sem.run_bind,he,Result.andThen_ok,Sem.run_pure,a1q]
theorem b3o {t:Nat} {ds:List D} (h:a1A t (.ag ds)=true):(ty t).kind=.struct/\Tryz.prog.eqGuardType Tryz.prog.depth t=false:=by
 rw[a1A] at h
 split at h
 ·rename_i hst
  split at h
  ·rename_i hs;have hm:=b1U t (a5N hs);unfold b0H at hm;simp only[Bool.and_eq_true,Bool.not_eq_true'] at hm;exact⟨hst,hm.1.2⟩
  ·cases h
 ·cases h
theorem eqp {t e:Nat} (hu:Tryz.prog.underlying t=some (.pointer e)) (p:Option Addr):(Op.equal t (.pointer p) (.pointer none)).run Tryz.prog w=.ok p.isNone w/\(Op.equal t (.pointer none) (.pointer p)).run Tryz.prog w=.ok p.isNone w:=by
 have key:∀d,(Op.equalIn (d+1) t (.pointer p) (.pointer none)).run Tryz.prog w=.ok p.isNone w/\(Op.equalIn (d+1) t (.pointer none) (.pointer p)).run Tryz.prog w=.ok p.isNone w:=λd=>by
  cases p <;> simp[Op.equalIn,run_underlying hu]
 exact key 9999
theorem eqb {t:Nat} (hu:Tryz.prog.underlying t=some .bool) (b c:Bool):(Op.equal t (.bool b) (.bool c)).run Tryz.prog w=.ok (b == c) w:=by
 have key:∀d,(Op.equalIn (d+1) t (.bool b) (.bool c)).run Tryz.prog w=.ok (b == c) w:=λd=>by
  simp[Op.equalIn,run_underlying hu]
 exact key 9999
theorem eqs {t e:Nat} (hu:Tryz.prog.underlying t=some (.slice e)) (A:Option Addr) (n c:Nat):(Op.equal t (.slice A n c) (.slice none 0 0)).run Tryz.prog w=.ok A.isNone w:=by
 have key:∀d,(Op.equalIn (d+1) t (.slice A n c) (.slice none 0 0)).run Tryz.prog w=.ok A.isNone w:=λd=>by
  cases A <;> simp[Op.equalIn,run_underlying hu]
 exact key 9999
theorem a7s {u:Value} {x:V} (hu:AtV I w g u x) (h:a8j x=true):u=.pointer none:=by
 unfold a8j at h
 split at h
 ·exact hu.sc
 ·cases h
theorem b8C (h:RelI I0 X w0 I g s a w) {K:V->Prop} {op:BinOp} {t:Nat} (ht:b87 t=true) (ox oy:Operand) {u v:Value} {x y:V} (hu:AtV I w g u x) (hv:AtV I w g v y) (hK:b4i j1 op t x y K):Yld I0 X w0 g s a w (do eqGuard op t ox oy u v;binOp op t u v) K:=by
 unfold b87 at ht;unfold b4i at hK
 split at hK <;> try exact hK.elim
 ·rename_i x y;obtain rfl:=hu.sc;obtain rfl:=hv.sc
  split at hK
  ·rename_i hk;rw[hk] at ht;obtain⟨e,hun⟩:=b0N ht hk
   split at hK <;> try exact hK.elim
   exact a4r h ox oy (by simp) (by simp) (.inl ⟨_,rfl⟩) (eqp hun none).1 hK
  ·rename_i hk;rw[hk] at ht;have hun:=b2a ht hk
   split at hK <;> try exact hK.elim
   rename_i b c;rw[a0I] at hK;exact a4r h ox oy (by simp) (by simp) (.inr (.inl ⟨_,rfl⟩)) (eqb hun b c) hK
  ·exact b8B h ox oy hK
 ·rename_i y K k off
  split at hK <;> try exact hK.elim
  rename_i hk;rw[hk] at ht;obtain⟨e,hun⟩:=b0N ht hk
  split at hK <;> try exact hK.elim
  rename_i hn;obtain rfl:=a7s hv hn;obtain⟨b,_,rfl⟩:=hu.unptr;exact a4r h ox oy (by simp) (by simp) (.inl ⟨_,rfl⟩) (eqp hun _).1 hK
 ·rename_i x K k off _ _
  split at hK <;> try exact hK.elim
  rename_i hk;rw[hk] at ht;obtain⟨e,hun⟩:=b0N ht hk
  split at hK <;> try exact hK.elim
  rename_i hn;obtain rfl:=a7s hu hn;obtain⟨b,_,rfl⟩:=hv.unptr;exact a4r h ox oy (by simp) (by simp) (.inl ⟨_,rfl⟩) (eqp hun _).2 hK
 ·rename_i K sz rows
  split at hK <;> try exact hK.elim
  rename_i hk;have hk:(ty t).kind=.slice:=by revert hk;cases (ty t).kind <;> intro hk <;> first|rfl|cases hk
  rw[hk] at ht;have ht:(j6 t && (ty t).elem.isSome)=true:=ht;rw[Bool.and_eq_true] at ht;obtain⟨e,he⟩:=Option.isSome_iff_exists.1 ht.2;have hun:=H7 ht.1 he;rw[hv.unem];cases hu with
  | d hd =>
   obtain⟨A,cap,rfl,hcap,hr⟩:=hd.slice;have hne:rows≠[]:=λe=>hK.1 (by rw[e];rfl)
   rcases hr with hr|⟨b,off,us,rfl,_⟩
   ·exact absurd hr hne
   ·exact a4r h ox oy (by simp) (by simp) (.inr (.inr ⟨_,_,_,rfl⟩)) (eqs hun _ _ _) hK.2
 ·rename_i K
  split at hK <;> try exact hK.elim
  rename_i hk;have hk:(ty t).kind=.slice:=by revert hk;cases (ty t).kind <;> intro hk <;> first|rfl|cases hk
  rw[hk] at ht;have ht:(j6 t && (ty t).elem.isSome)=true:=ht;rw[Bool.and_eq_true] at ht;obtain⟨e,he⟩:=Option.isSome_iff_exists.1 ht.2;have hun:=H7 ht.1 he;rw[hv.unem,hu.unem];exact a4r h ox oy (by simp) (by simp) (.inr (.inr ⟨_,_,_,rfl⟩)) (eqs hun _ _ _) hK
 ·rename_i K xs ys
  split at hK <;> try exact hK.elim
  rename_i ds es h1 h2
  split at hK <;> try exact hK.elim
  rename_i hk1
  split at hK <;> try exact hK.elim
  rename_i hk2;obtain⟨us,rfl,hus⟩:=hu.unag;obtain⟨vs,rfl,hvs⟩:=hv.unag;have a1:=a2x (r:=.ag ds) ⟨us,rfl,a5O hus h1⟩ hk1;have a2:=a2x (r:=.ag es) ⟨vs,rfl,a5O hvs h2⟩ hk2;obtain⟨hst,hg⟩:=b3o hk1;rw[hst] at ht;have ht:(j6 t && (ty t).fty.all j6)=true:=ht;rw[Bool.and_eq_true] at ht;have hkey:=(a81 (w:=w) ht.1 (λu hu=>List.all_eq_true.1 ht.2 u hu) hk1 hk2).eq;rw[<-a1,<-a2] at hkey;exact c0i h ox oy hg hkey hK
theorem c0j (h:RelI I0 X w0 I g s a w) {K:V->Prop} {op:UnOp} {u:Value} {x:V} (hu:AtV I w g u x) (hK:unV j1 op x K):Yld I0 X w0 g s a w (Op.unary op u) K:=by
 unfold unV at hK
 split at hK <;> try exact hK.elim
 ·obtain rfl:=hu.sc;refine Y5 h ?_ (atb _) hK;simp only[Op.unary,a1q];rfl
 ·obtain rfl:=hu.sc;exact Y5 h (by simp only[Op.unary,Op.intArith];rfl) (ati _ _) hK
theorem b47 {us:List Value} {r:List D} {c:UInt8} (h:A8 I w us r) (hc:b1Y r=some c):∃n:Int,us=[.int .u8 n]/\c=UInt8.ofNat n.toNat:=by
 unfold b1Y at hc
 split at hc
 ·rename_i v;obtain⟨u,us',rfl,h1,h2⟩:=h.uncons;have h3:us'=[]:=List.eq_nil_of_length_eq_zero h2.1;subst h3;cases h1 with
  | sc _ hv =>
  unfold b7Z at hc
  split at hc
  ·rename_i k n
   split at hc
   ·rename_i hk;obtain rfl:=a5J hk;injection hc with hc;exact⟨n,rfl,hc.symm⟩
   ·cases hc
  ·cases hc
 ·cases hc
theorem a7t:∀ {rows:List (List D)} {us:List Value} {l:List UInt8},A8 I w us rows.flatten->a4e rows=some l->∃ns:List Int,us=ns.map (Value.int .u8)/\l=ns.map (λn=>UInt8.ofNat n.toNat)
 | [],us,l,h,hb=>by
  injection hb with hb;subst hb;exact⟨[],List.eq_nil_of_length_eq_zero h.1,rfl⟩
 | r::rows,us,l,h,hb=>by
  rw[a4e] at hb
  split at hb <;> try cases hb
  rename_i c hc
  split at hb <;> try cases hb
  rename_i t ht;rw[List.flatten_cons] at h
  have h1:A8 I w (us.take r.length) r:=by
   have:=h.take r.length;rw[List.take_left] at this;exact this
  have h2:A8 I w (us.drop r.length) rows.flatten:=by
   have:=h.drop r.length;rw[List.drop_left] at this;exact this
  obtain⟨n,e1,e2⟩:=b47 h1 hc;obtain⟨ns,e3,e4⟩:=a7t h2 ht;exact⟨n::ns,by rw[<-List.take_append_drop r.length us,e1,e3];rfl,by rw[e2,e4];rfl⟩
theorem a5P:∀(ns:List Int) (s:ByteArray),ns.foldl (λr n=>r.push (UInt8.ofNat n.toNat)) s=⟨⟨s.data.toList++ns.map (λn=>UInt8.ofNat n.toNat)⟩⟩
 | [],s=>by simp
 | n::ns,s=>by
  rw[List.foldl_cons,a5P ns]
  simp[ByteArray.push]
theorem a4s {t:Nat} (h:a4k t=true):∃e,(ty t).elem=some e/\j6 e=true/\(ty e).kind=.int .u8:=by
 unfold a4k at h
 split at h
 ·rename_i e he;rw[Bool.and_eq_true] at h;obtain⟨h1,h2⟩:=h
  split at h2
  ·rename_i k hk;obtain rfl:=a5J h2;exact⟨e,he,h1,hk⟩
  ·cases h2
 ·cases h
theorem a7u {t u:Nat} (h:a4l t u=true) (h1:Z1 (ty t).kind=true) (h2:(ty u).kind=.str):a4k t=true:=by
 unfold a4l at h;rw[h1,h2,Bool.and_eq_true] at h
 simpa [a1h,a9o] using h.1
theorem b3p {t u:Nat} (h:a4l t u=true) (h1:a9o (ty t).kind=true) (h2:(ty u).kind=.slice):a4k u=true:=by
 unfold a4l at h;rw[h1,h2,Bool.and_eq_true] at h
 simpa [a1h,Z1] using h.2
theorem b6A (h:RelI I0 X w0 I g s a w) {K:V->Prop} {t0 t:Nat} (ht0:j6 t0=true) (ht:j6 t=true) (hcv:a4l t0 t=true) {u:Value} {x:V} (hu:AtV I w g u x) (hK:a9p j1 K (ty t0).kind (ty t).kind x):Yld I0 X w0 g s a w (convert t0 t u) K:=by
 have h0:∃d,Tryz.prog.underlying t0=some d:=by
  have:=(a29 t0 ht0).agg;cases hd:Tryz.prog.underlying t0 with
  | none=>rw[hd] at this;cases this
  | some d=>exact⟨d,rfl⟩
 obtain⟨d0,hd0⟩:=h0;unfold a9p at hK
 split at hK <;> try exact hK.elim
 ·rename_i k hkind;unfold b4j at hK
  split at hK <;> try exact hK.elim
  obtain rfl:=hu.sc;exact Y5 h (by simp[convert,run_underlying hd0,run_underlying (a57 ht hkind),Conv.intToInt];rfl) (ati _ _) hK
 ·rename_i hkind;unfold b4k at hK
  split at hK <;> try exact hK.elim
  ·obtain rfl:=hu.sc;exact Y5 h (by simp[convert,run_underlying hd0,run_underlying (a2V ht hkind)]) (ats _) hK
  ·rename_i sz rows
   split at hK <;> try exact hK.elim
   rename_i hsl;obtain⟨e,he,hke,hkk⟩:=a4s (a7u hcv hsl hkind);unfold b8z at hK
   split at hK <;> try exact hK.elim
   rename_i b hb;replace hb:a5i rows=some b:=hb;unfold a5i at hb
   split at hb <;> try cases hb
   rename_i l hl;cases hu with
   | d hd =>
    obtain⟨A,cap,rfl,hcap,hrows⟩:=hd.slice
    have key:(Conv.bytesToString (.slice A rows.length cap)).run Tryz.prog w=.ok (.string ⟨⟨l⟩⟩) w:=by
     rcases hrows with rfl|⟨b,off,us,rfl,hI,hr,hlen,hcell,hat⟩
     ·have hl:l=[]:=(Option.some.inj hl).symm;subst hl;cases A with
      | none=>rfl
      | some p =>
       have h1:=run_bytesToString (P:=Tryz.prog) w p 0 cap [] (run_loadCells_list (P:=Tryz.prog) w p [] (λj v hv=>by simp at hv));rw[a5P] at h1;exact h1
     ·obtain⟨ns,e1,e2⟩:=a7t hat hl
      have hl1:us.length=rows.length:=by
       rw[hlen]
       have:∀ {rows:List (List D)} {l:List UInt8},a4e rows=some l->∀r∈rows,r.length=1:=by
        intro rows
        induction rows with
        | nil=>intro l _ r hr;cases hr
        | cons r0 rows ih =>
         intro l hb r hr;rw[a4e] at hb
         split at hb <;> try cases hb
         rename_i c hc
         split at hb <;> try cases hb
         rename_i t ht
         rcases List.mem_cons.1 hr with rfl|hr
         ·unfold b1Y at hc
          split at hc
          ·rfl
          ·cases hc
         ·exact ih ht r hr
       cases rows with
       | nil=>simp
       | cons r rows=>rw[<-hr r (List.mem_cons_self ..),this hl r (List.mem_cons_self ..),Nat.mul_one]
      have h1:=run_bytesToString (P:=Tryz.prog) w ⟨b,off,none⟩ rows.length cap ns (by rw[<-hl1,<-e1];exact run_loadCells_list (P:=Tryz.prog) w ⟨b,off,none⟩ us (λj v hv=>by rw[Addr.add_lit];exact hcell j v hv));rw[a5P] at h1;rw[h1,e2];rfl
    exact Y5 h (by rw[run_convert_bytes_string w t0 t e A rows.length cap (H7 ht0 he) (a57 hke hkk) (a2V ht hkind)];exact key) (ats _) hK
  ·split at hK <;> try exact hK.elim
   rename_i hsl;obtain⟨e,he,hke,hkk⟩:=a4s (a7u hcv hsl hkind);rw[hu.unem];exact Y5 h (by rw[run_convert_bytes_string w t0 t e none 0 0 (H7 ht0 he) (a57 hke hkk) (a2V ht hkind)];rfl) (ats _) hK
 ·rename_i hkind;unfold b4l at hK
  split at hK <;> try exact hK.elim
  rename_i b
  split at hK <;> try exact hK.elim
  rename_i hst;obtain⟨e,he,hke,hkk⟩:=a4s (b3p hcv hst hkind);obtain rfl:=hu.sc;have hrun:=Lib.run_convert_string_bytes (P:=Tryz.prog) w t0 t e b hd0 (H7 ht he) (a57 hke hkk);have hb:Below w.heap.size w (Lib.bytesWorld w e b):=⟨rfl,rfl,rfl,by rw[Lib.bytesWorld_size];omega,λk hk=>Lib.bytesWorld_at_old w e b k hk⟩;have hk:A1 I w (Lib.bytesWorld w e b):=λb k hbk i _=>hb.cell (p:=⟨b,i,none⟩) (h.lt b k hbk).1
  have h4:=h.grow hb (I':=λb k=>I b k\/b=w.heap.size) (λ_ _ h=>.inl h) (λb k hk=>by
   rcases hk with hk|rfl
   ·exact .inl hk
   ·exact .inr ⟨Nat.le_refl _,by rw[Lib.bytesWorld_size];omega⟩)
  have hlen:(a52 b).length=b.size:=by unfold a52;rw[List.length_map];rfl
  refine⟨_,_,_,_,hrun,h4,.d ?_,hK⟩;rw[show b.size=(a52 b).length from hlen.symm];refine .sl _ 0 _ _ (a52 b) (b.data.toList.map λc=>.int .u8 (c.toNat:Int)) (by rw[hlen];exact grownCap_ge ..) ⟨_,Nat.le_refl _,.inr rfl⟩ (λr hr=>?_) ?_ (λi u hu=>?_) (λi u d hu hd=>?_)
  ·unfold a52 at hr;obtain⟨c,_,rfl⟩:=List.mem_map.1 hr;rfl
  ·rw[List.length_map,hlen,Nat.mul_one];rfl
  ·rw[Nat.zero_add];have hi:i<b.size:=by have:=(List.getElem?_eq_some_iff.1 hu).1;rw[List.length_map] at this;exact this
   rw[Lib.bytesWorld_cell w e b i hi];rw[List.getElem?_map] at hu;rw[List.getD_eq_getElem?_getD];cases hg:b.data.toList[i]? with
   | none=>rw[hg] at hu;cases hu
   | some c=>rw[hg] at hu;have hu:=Option.some.inj hu;rw[<-hu];rfl
  ·have key:∀l:List UInt8,∀i:Nat,∀u d,(l.map λc=>Value.int .u8 (c.toNat:Int))[i]?=some u->(l.map λc=>[D.sc (.int .u8 (c.toNat:Int))]).flatten[i]?=some d->AtD (λb k=>I b k\/b=w.heap.size) (Lib.bytesWorld w e b) u d:=by
    intro l
    induction l with
    | nil=>intro i u d hu;simp at hu
    | cons c l ih =>
     intro i u d hu hd;cases i with
     | zero=>simp at hu hd;subst hu;subst hd;exact .sc _ rfl
     | succ i=>exact ih i u d (by simpa using hu) (by simpa using hd)
   exact key _ i u d hu hd
theorem b0Q (h:RelI I0 X w0 I g s a w) {K:V->Prop} {i:Nat} {u:Value} {x:V} (hu:AtV I w g u x) (hK:a1J K i x):Yld I0 X w0 g s a w (Instr.extract u i) K:=by
 unfold a1J at hK
 split at hK <;> try exact hK.elim
 rename_i vs
 split at hK <;> try exact hK.elim
 rename_i v hv;have hi:=a0S hv;obtain⟨us,rfl,h1⟩:=hu.untu;have hlt:i<us.length:=by rw[h1.1];exact(List.getElem?_eq_some_iff.1 hi).1
 refine Y5 h (v:=us[i]) ?_ (h1.2 i _ _ (List.getElem?_eq_getElem hlt) hi) hK
 simp[Instr.extract,hlt]
theorem b8D (h:RelI I0 X w0 I g s a w) {K:V->Prop} {t ty':Nat} (ht:j6 t=true) {u:Value} {x:V} (hu:AtV I w g u x) (hK:b4m j1 s.o K (ty t).kind x):Yld I0 X w0 g s a w (Builtin.len_ #[t] ty' #[u]) K:=by
 have hsl:(ty t).kind=.slice->∃e,Tryz.prog.underlying t=some (.slice e):=λhk=>by
  have h2:=(a29 t ht).under;unfold a0q at h2;rw[hk] at h2;obtain⟨h3,h4⟩:=h2;obtain⟨e,he⟩:=Option.isSome_iff_exists.1 h4;rw[he] at h3;exact⟨e,h3⟩
 have key:∀A n cap,(∃e,Tryz.prog.underlying t=some (.slice e))->(Builtin.len_ #[t] ty' #[.slice A n cap]).run Tryz.prog w=.ok (.int .i64 n) w:=λA n cap ⟨e,he⟩=>by
  simp[Builtin.len_,run_underlying he,goInt]
 unfold b4m at hK
 split at hK <;> try exact hK.elim
 rotate_left
 ·rename_i hk;unfold b81 at hK
  split at hK <;> try exact hK.elim
  rename_i b;obtain rfl:=hu.sc;exact Y5 h (by simp[Builtin.len_,run_underlying (a2V ht hk),goInt];rfl) (ati _ _) hK
 rename_i hk;unfold b80 at hK
 split at hK <;> try exact hK.elim
 ·rename_i sz rows;cases hu with
  | d h1 =>
   obtain⟨A,cap,rfl,-⟩:=h1.slice;exact Y5 h (key _ _ _ (hsl hk)) (ati _ _) hK
 ·cases hu;exact Y5 h (key _ _ _ (hsl hk)) (ati _ _) hK
 ·rename_i k
  split at hK <;> try exact hK.elim
  rename_i z e rows ho;obtain⟨us,h1,_⟩:=h.obj k _ (A5 ho (by simp));obtain⟨A,cap,hg⟩:=L9 h1;cases hu with
  | own k A' n cap' hg' =>
   rw[a1O h1,hg] at hg';injection hg' with e1 e2 e3;subst e1;subst e2;subst e3;exact Y5 h (key _ _ _ (hsl hk)) (ati _ _) hK
 ·obtain⟨b,cap,hg,rfl,hle⟩:=hu.unbs;exact Y5 h (key _ _ _ (hsl hk)) (ati _ _) hK
theorem b6B (h:RelI I0 X w0 I g s a w) {K:V->Prop} {t:Nat} (ht:j6 t=true) (htv:(ty t).kind=.array->∀e,(ty t).val=some e->j6 e=true) {u v:Value} {x i:V} (hu:AtV I w g u x) (hv:AtV I w g v i) (hK:a1I j1 K t x i):Yld I0 X w0 g s a w (Instr.index t u v) K:=by
 unfold a1I at hK
 split at hK <;> try exact hK.elim
 ·rename_i cs k n
  split at hK <;> try exact hK.elim
  rename_i hkd
  split at hK <;> try exact hK.elim
  rename_i e he
  split at hK <;> try exact hK.elim
  rename_i j hj
  split at hK <;> try exact hK.elim
  rename_i l hl
  split at hK <;> try exact hK.elim
  rename_i y hy;have hun:=a58 ht hkd he;have hke:=htv hkd e he;obtain rfl:=hv.sc;obtain⟨us,rfl,h7⟩:=hu.unag
  have hn:(0<=n/\n<((ty t).alen:Int))/\n.toNat=j:=by
   simp only[j1] at hj
   split at hj
   ·rename_i h1;injection hj with hj;exact⟨h1,hj⟩
   ·cases hj
  obtain⟨hn,rfl⟩:=hn;rw[Z5] at hl;obtain⟨e1,he1⟩:=Z6 hl;have hul:n6 I w g ((us.drop (n.toNat * (ty e).sz)).take (ty e).sz) l:=by rw[e1];exact(h7.drop _).take _
  obtain⟨hx,hone⟩:=a8p hul hy;refine Y5 h ?_ hx hK;simp only[Instr.index,asIntOf,Sem.run_bind,Sem.run_pure,run_underlying hun,Result.andThen_ok,if_pos hn,part,L3 hke,a8o hke];cases hag:(ty e).agg with
  | true =>
   have hsz:=L3 hke w
   simp[hsz]
  | false =>
   have hlen:=hone hag;simp only[Bool.false_eq_true,if_false]
   have hlt:n.toNat * (ty e).sz<us.length:=by
    rw[List.length_take,List.length_drop] at hlen;omega
   have:us.toArray[n.toNat * (ty e).sz]?=some (((us.drop (n.toNat * (ty e).sz)).take (ty e).sz).getD 0 undef):=by
    simp only[List.getElem?_toArray,List.getD_eq_getElem?_getD,List.getElem?_take,List.getElem?_drop,Nat.add_zero];have hsz:0<(ty e).sz:=by rw[List.length_take] at hlen;omega
    rw[if_pos hsz,List.getElem?_eq_getElem hlt];rfl
   rw[this];rfl
 rename_i b k n
 split at hK <;> try exact hK.elim
 rename_i hk
 split at hK <;> try exact hK.elim
 rename_i c hc;obtain rfl:=hu.sc;obtain rfl:=hv.sc
 have hs:(if 0<=n then b[n.toNat]? else none).map (λc=>(c.toNat:Int))=some c:=by
  simp only[j1] at hc
  split at hc
  ·rw[if_pos (by assumption)];exact hc
  ·cases hc
 cases hx:(if 0<=n then b[n.toNat]? else none) with
 | none=>rw[hx] at hs;cases hs
 | some y =>
  rw[hx] at hs;injection hs with hs;subst hs;exact Y5 h (by simp[Instr.index,asIntOf,run_underlying (a2V ht hk),hx]) (ati _ _) hK
theorem a34:∀(vs:List Value) (j:Nat) (cs:Array Value) (off:Nat),off+j+vs.length<=cs.size ->
  ((vs.zipIdx j).foldl (λcs (c,j)=>cs.setIfInBounds (off+j) c) cs).toList=cs.toList.take (off+j)++vs++cs.toList.drop (off+j+vs.length)
 | [],j,cs,off,_=>by simp
 | v::vs,j,cs,off,hl=>by
  have hl':off+j<cs.size:=by simp at hl;omega
  rw[List.zipIdx_cons,List.foldl_cons,a34 vs (j+1) _ off (by simp at hl ⊢;omega)];simp only[Array.toList_setIfInBounds,<-Nat.add_assoc,List.length_cons];have hlt:off+j<cs.toList.length:=by simpa using hl'
  rw[List.set_eq_take_append_cons_drop,if_pos hlt];have h1:(cs.toList.take (off+j)).length=off+j:=by rw[List.length_take];omega
  have h2:(cs.toList.take (off+j)++v::cs.toList.drop (off+j+1)).take (off+j+1)=cs.toList.take (off+j)++[v]:=by
   rw[List.take_append,h1,List.take_of_length_le (by omega),show off+j+1 - (off+j)=1 by omega]
   simp
  have h3:(cs.toList.take (off+j)++v::cs.toList.drop (off+j+1)).drop (off+j+1+vs.length)=cs.toList.drop (off+j+(vs.length+1)):=by
   rw[List.drop_append,h1,List.drop_of_length_le (by omega),show off+j+1+vs.length - (off+j)=vs.length+1 by omega,List.nil_append,List.drop_succ_cons,List.drop_drop]
   congr 1
   omega
  rw[h2,h3]
  simp[Nat.add_assoc]
theorem a5k (h:RelI I0 X w0 I g s a w) {place:List (Nat×Nat)}:∀ {ps:List (Nat×Operand)} {l r:List V} {us:List Value},n6 I w g us l->U3 s.get place ps l=some r ->
  ∃us',Instr.fill (λi=>place[i]?) us.toArray (ps.map λp=>(p.1,a.eval p.2))=some us'.toArray/\n6 I w g us' r
 | [],l,r,us,hu,hf=>by
  rw[U3] at hf;injection hf with hf;subst hf;exact⟨us,rfl,hu⟩
 | (i,x)::ps,l,r,us,hu,hf=>by
  rw[U3] at hf
  split at hf <;> try cases hf
  rename_i off sz hp
  split at hf <;> try cases hf
  rename_i cs hcs
  split at hf <;> try cases hf
  rename_i hsz
  split at hf <;> try cases hf
  rename_i l' hl';rw[B2,J2] at hsz;obtain⟨vs,hv1,hv2,hv3⟩:=a30 (h.get x) hcs;obtain⟨e,hle⟩:=U7 hl';have hlen:off+vs.length<=us.length:=by rw[hv2.1,hu.1];exact hle
  obtain⟨us',h1,h2⟩:=a5k h (hu.splice hv2 hl') hf;refine⟨us',?_,h2⟩;rw[List.map_cons,Instr.fill];simp only[a0S hp];have hsize:(a.eval x).cells.size=sz:=by rw[hv1];simp[hv2.1,hsz]
  rw[if_neg (by
   rw[hsize];have:vs.length=sz:=by rw[hv2.1,hsz]
   simp
   omega)]
  rw[<-h1]
  congr 1
  apply Array.ext'
  have:=a34 vs 0 us.toArray off (by simpa using hlen);simp only[Nat.add_zero] at this;rw[hv1]
  simpa using this
theorem a4N {α:Type} (o:α->Nat) (sz:α->Option Nat):∀(l:List α) (m:List (Nat×Nat)),l.map (λf=>(o f,sz f))=m.map (λx=>(x.1,some x.2))->l.mapM (λf=>(sz f).map λi=>(o f,i))=some m
 | [],[],_=>rfl
 | [],_::_,h=>by cases h
 | _::_,[],h=>by cases h
 | f::l,(y1,y2)::m,h=>by
  rw[List.map_cons,List.map_cons] at h;injection h with h1 h2;injection h1 with h1 h3;simp only at h3 h1;rw[List.mapM_cons,a4N o sz l m h2,h3,h1];rfl
theorem a5Q {sz:Nat}:∀ {n off i:Nat} {p:Nat×Nat},(places sz n off)[i]?=some p->p=(off+i * sz,sz)
 | 0,off,i,p,h=>by simp[places] at h
 | n+1,off,0,p,h=>by simp[places] at h;simp[<-h]
 | n+1,off,i+1,p,h=>by
  have:=a5Q (n:=n) (off:=off+sz) (i:=i) (p:=p) (by simpa [places] using h);rw[this,Nat.succ_mul]
  congr 1
  omega
theorem a7v {place place':Nat->Option (Nat×Nat)} (hp:∀i p,place i=some p->place' i=some p):∀ {ps:List (Nat×Value)} {l r:Array Value},Instr.fill place l ps=some r->Instr.fill place' l ps=some r
 | [],l,r,h=>h
 | (i,v)::ps,l,r,h=>by
  rw[Instr.fill] at h ⊢
  split at h
  ·cases h
  ·rename_i off size hpi;rw[hp _ _ hpi];simp only
   split at h
   ·cases h
   ·rename_i hc;rw[if_neg hc];exact a7v hp h
theorem b48 (h:RelI I0 X w0 I g s a w) {K:V->Prop} {t:Nat} (ht:j6 t=true) (htv:(ty t).kind=.array->∀e,(ty t).val=some e->j6 e=true) (ps:Array (Nat×Operand)) (hK:a1j s.get K t ps.toList):Yld I0 X w0 g s a w (Instr.build t (ps.map λp=>(p.1,a.eval p.2))) K:=by
 unfold a1j at hK
 split at hK <;> try exact hK.elim
 ·rename_i hk
  split at hK <;> try exact hK.elim
  rename_i l hl;obtain⟨us',h1,h2⟩:=a5k h (K8 (ty t).zero) hl;refine Y5 h ?_ (a0F h2) hK;refine run_build w t _ _ ?_;obtain⟨x,z,hi,hs,hz,hc,_⟩:=a1m ht;obtain⟨fs,hu,hf1,hf2⟩:=a4h ht hk
  have hpl:fs.toList.mapM (λf=>(Tryz.prog.info? f.type).map λi=>(f.offset,i.size))=some (ty t).flds:=by
   have hm:=a4N _ _ _ _ hf1;simp only[Option.map_map] at hm;exact hm
  simp only[Program.built,hi,hu,hz,hpl,hc];rw[Array.toList_map]
  simpa using h1
 ·rename_i hk
  split at hK <;> try exact hK.elim
  rename_i e he
  split at hK <;> try exact hK.elim
  rename_i l hl;obtain⟨us',h1,h2⟩:=a5k h (K8 (ty t).zero) hl;refine Y5 h ?_ (a0F h2) hK;obtain⟨z,hz,hzc⟩:=a5j ht w;have hun:=a58 ht hk he
  have hpl:∀i p,(places (ty e).sz (ty t).alen 0)[i]?=some p->p=(i * (ty e).sz,(ty e).sz):=λi p hp=>by
   have:=a5Q hp
   simpa using this
  have h3:=a7v (place':=λi=>some (i * (ty e).sz,(ty e).sz)) (λi p hp=>by rw[hpl i p hp]) h1;rw[<-hzc] at h3;simp only[Instr.build,Sem.run_bind,hz,Result.andThen_ok,run_underlying hun,L3 (htv hk e he),Array.toList_map];rw[h3];rfl
theorem b49 (h:RelI I0 X w0 I g s a w) {K:V->Prop} {mx:Bool} {ts:Array TypeId} {ty':Nat} {us:List Value} {xs:List V} (hu:n6 I w g us xs) (hK:a8l j1 K mx xs):Yld I0 X w0 g s a w (if mx=true then Builtin.max_ ts ty' us.toArray else Builtin.min_ ts ty' us.toArray) K:=by
 unfold a8l at hK
 split at hK <;> try exact hK.elim
 rename_i k m k' n;obtain⟨u,us,rfl,h1,h2⟩:=hu.uncons;obtain⟨v,us,rfl,h3,h4⟩:=h2.uncons;rw[h4.unnil];obtain rfl:=h1.sc;obtain rfl:=h3.sc
 split at hK <;> try exact hK.elim
 cases mx with
 | true =>
  refine Y5 h ?_ (ati k _) hK;simp only[Builtin.max_,if_true,List.foldlM,Builtin.max2,j1]
  by_cases hlt:m<n
  ·simp[hlt]
  ·simp[hlt]
 | false =>
  refine Y5 h ?_ (ati k _) hK;simp only[Builtin.min_,Bool.false_eq_true,if_false,List.foldlM,Builtin.min2,j1]
  by_cases hlt:n<m
  ·simp[hlt]
  ·simp[hlt]
theorem c0k (h:RelI I0 X w0 I g s a w) {K:V->Prop} {v:Value} {x:V} (hv:AtV I w g v x) (hK:nnV K x):K x/\(∀f,v≠.func (.method f) #[] #[])/\((∃a,v=.pointer (some a))\/∃f cs,v=.func (.func f) #[] cs):=by
 unfold nnV at hK
 split at hK <;> try exact hK.elim
 ·obtain⟨b,_,rfl⟩:=hv.unptr;exact⟨hK,by simp,.inl ⟨_,rfl⟩⟩
 ·cases hv;exact⟨hK,by simp,.inr ⟨_,_,rfl⟩⟩
 ·cases hv;exact⟨hK,by simp,.inl ⟨_,rfl⟩⟩
 ·cases hv;exact⟨hK,by simp,.inl ⟨_,rfl⟩⟩
end
end
section
section
variable {I0:Nat->Nat->Prop} {X:Nat->Prop} {w0:W0} {I:Nat->Nat->Prop} {g:Nat->Value} {s:S} {a:Act} {w:World}
theorem a7w {sz:Nat}:∀ {n:Nat} {l:List D} {rows:List (List D)},a4f sz n l=some rows->rows.flatten=l/\rows.length=n/\∀r∈rows,r.length=sz
 | 0,[],rows,h=>by rw[a4f] at h;injection h with h;subst h;simp
 | 0,_::_,rows,h=>by rw[a4f] at h;cases h
 | n+1,l,rows,h=>by
  rw[a4f] at h
  split at h <;> try cases h
  rename_i r hr
  split at h <;> try cases h
  rename_i rs hrs;obtain⟨h1,h2,h3⟩:=a7w hrs;obtain⟨h4,h5⟩:=Z6 hr;rw[Z5] at h1;refine⟨?_,by simp[h2],λx hx=>?_⟩
  ·rw[List.flatten_cons,h1,h4];simp
  ·rcases List.mem_cons.1 hx with rfl|hx
   ·exact h5
   ·exact h3 x hx
theorem a94 {us:List Value} {z:List V} (hz:n6 I w g us z):∀(n:Nat) {vs:List Value} {acc:List V},n6 I w g vs acc->n6 I w g ((List.replicate n us).flatten++vs) (a2G z n acc)
 | 0,vs,acc,h=>by simpa [a2G] using h
 | n+1,vs,acc,h=>by
  rw[a2G];have:=a94 hz n (hz.append h);rw[List.replicate_succ',List.flatten_append]
  simpa using this
theorem a5R (z:Array Value) (n:Nat):((Array.range (n * z.size)).map λi=>z[i % z.size]!).toList=(List.replicate n z.toList).flatten:=by
 apply List.ext_getElem?
 intro i;have hrl:∀r∈List.replicate n z.toList,r.length=z.size:=λr hr=>by rw[(List.mem_replicate.1 hr).2];simp
 by_cases hi:i<n * z.size
 ·have hz:0<z.size:=by
   rcases Nat.eq_zero_or_pos z.size with h|h
   ·rw[h,Nat.mul_zero] at hi;omega
   ·exact h
  have hq:i / z.size<n:=Nat.div_lt_of_lt_mul (by rw[Nat.mul_comm];exact hi);have hm:i % z.size<z.size:=Nat.mod_lt _ hz;have e:=Z2 hrl (i:=i / z.size) (j:=i % z.size) (r:=z.toList) (by rw[List.getElem?_replicate,if_pos hq]) hm;rw[Nat.div_add_mod' i z.size] at e;rw[e]
  simp[hi,hm,Array.getElem?_eq_getElem]
 ·rw[List.getElem?_eq_none (by simp;omega),List.getElem?_eq_none (by rw[a0v hrl];simp;omega)]
theorem a1T (h:RelI I0 X w0 I g s a w) {K:V->Prop} {t n:Nat} (ht:j6 t=true) (hte:∀e,(ty t).elem=some e->j6 e=true/\n * (ty e).sz<=16777216) (ps:Array (Nat×Operand)) (hK:C9 s.get s.o K t n ps.toList) :
  ∃e rows us,(ty t).elem=some e/\j6 e=true/\(Instr.buildSlice t n (ps.map λp=>(p.1,a.eval p.2))).run Tryz.prog w=.ok (.slice (some ⟨w.heap.size,0,none⟩) n n) (w.alloc (.cells us.toArray e))/\us.length=n * (ty e).sz/\rows.length=n/\(∀r∈rows,r.length=(ty e).sz)/\A8 I w us rows.flatten/\K (.d (.sl (ty e).sz rows)):=by
 unfold C9 at hK
 split at hK <;> try exact hK.elim
 rename_i e he
 split at hK <;> try exact hK.elim
 rename_i n
 split at hK <;> try exact hK.elim
 rename_i l hl
 split at hK <;> try exact hK.elim
 rename_i ds hds
 split at hK <;> try exact hK.elim
 rename_i rows hrows;obtain⟨hke,hsz⟩:=hte e he;have hun:=H7 ht he;obtain⟨z,hz,hzc⟩:=a5j hke w;obtain⟨_,_,_,_,_,_,hzl,_⟩:=a1m hke;have hz0:=a94 (I:=I) (w:=w) (g:=g) (K8 (ty e).zero) (n+1) (.nil I w g);rw[List.append_nil] at hz0
 have hpl:∀(m off i:Nat) (p:Nat×Nat),(places (ty e).sz m off)[i]?=some p->p=(off+i * (ty e).sz,(ty e).sz):=by
  intro m
  induction m with
  | zero=>intro off i p hp;simp[places] at hp
  | succ m ih =>
   intro off i p hp;cases i with
   | zero=>simp[places] at hp;rw[<-hp];simp
   | succ i =>
    have:=ih (off+(ty e).sz) i p (by simpa [places] using hp);rw[this,Nat.succ_mul];exact Prod.ext (by simp only;omega) rfl
 obtain⟨us',h1,h2⟩:=a5k h hz0 hl
 have hfill:∀(ps:List (Nat×Value)) (cs r:Array Value),Instr.fill (λi=>(places (ty e).sz (n+1) 0)[i]?) cs ps=some r->Instr.fill (λi=>some (i * (ty e).sz,(ty e).sz)) cs ps=some r:=by
  intro ps
  induction ps with
  | nil=>intro cs r hr;exact hr
  | cons p ps ih =>
   intro cs r hr;obtain⟨i,v⟩:=p;rw[Instr.fill] at hr ⊢;cases hp:(places (ty e).sz (n+1) 0)[i]? with
   | none=>rw[hp] at hr;cases hr
   | some q =>
    rw[hp] at hr;have:=hpl _ _ _ _ hp;rw[Nat.zero_add] at this;subst this;simp only at hr ⊢
    split at hr
    ·cases hr
    ·rename_i hc;rw[if_neg hc];exact ih _ _ hr
 have h3:=hfill _ _ _ h1
 have hcell:((Array.range ((n+1) * (ty e).sz)).map λi=>((if (n+1) * (ty e).sz=0 then #[] else z.cells):Array Value)[i % ((if (n+1) * (ty e).sz=0 then #[] else z.cells):Array Value).size]!)=((List.replicate (n+1) (ty e).zero).flatten).toArray:=by
  apply Array.ext'
  by_cases hs0:(n+1) * (ty e).sz=0
  ·have:(ty e).sz=0:=by rcases Nat.mul_eq_zero.1 hs0 with h|h <;> omega
   rw[this] at hzl;have hnil:(ty e).zero=[]:=List.eq_nil_of_length_eq_zero hzl;rw[hs0,hnil]
   simp
  ·rw[if_neg hs0,hzc];have:=a5R (ty e).zero.toArray (n+1);simp only[List.size_toArray,hzl] at this
   simpa [hzl] using this
 have hdat:=a3t h h2 hds;obtain⟨hfl,hrl,hr1⟩:=a7w hrows
 have hrun:(Instr.buildSlice t (n+1) (ps.map λp=>(p.1,a.eval p.2))).run Tryz.prog w=.ok (.slice (some ⟨w.heap.size,0,none⟩) (n+1) (n+1)) (w.alloc (.cells us'.toArray e)):=by
  have hsz':(n+1) * (ty e).sz<=16777216:=hsz;have hbig:¬(n+1) * (ty e).sz>16777216:=by omega
  have hsize:=L3 hke w
  by_cases hs0:(n+1) * (ty e).sz=0
  ·rw[if_pos hs0] at hcell;simp only[Instr.buildSlice,Sem.run_bind,run_underlying hun,Result.andThen_ok,hsize,Sem.run_ite,Sem.run_pure];rw[if_neg (by omega),if_pos hs0];simp only[Result.andThen_ok,hcell,Array.toList_map,h3];rfl
  ·rw[if_neg hs0] at hcell;simp only[Instr.buildSlice,Sem.run_bind,run_underlying hun,Result.andThen_ok,hsize,Sem.run_ite,Sem.run_pure];rw[if_neg (by omega),if_neg hs0];simp only[Sem.run_bind,hz,Result.andThen_ok,Sem.run_pure,hcell,Array.toList_map,h3];rfl
 exact⟨e,rows,us',he,hke,hrun,by rw[hdat.1,<-hfl,a0v hr1,hrl],hrl,hr1,by rw[hfl];exact hdat,hK⟩
theorem a7d (h:RelI I0 X w0 I g s a w) {K:V->Prop} {t n:Nat} (ht:j6 t=true) (hte:∀e,(ty t).elem=some e->j6 e=true/\n * (ty e).sz<=16777216) (ps:Array (Nat×Operand)) (hK:C9 s.get s.o K t n ps.toList) :
  Yld I0 X w0 g s a w (Instr.buildSlice t n (ps.map λp=>(p.1,a.eval p.2))) K:=by
 obtain⟨e,rows,us',he,hke,hrun,hl,hrl,hr1,hdat,hK⟩:=a1T h ht hte ps hK;have hb:Below w.heap.size w (w.alloc (.cells us'.toArray e)):=(Below.refl _ _).alloc (Nat.le_refl _) _;have hk:A1 I w (w.alloc (.cells us'.toArray e)):=λb k hbk i _=>hb.cell (p:=⟨b,i,none⟩) (h.lt b k hbk).1
 have h4:=h.grow hb (I':=λb k=>I b k\/b=w.heap.size) (λ_ _ h=>.inl h) (λb k hk=>by
  rcases hk with hk|rfl
  ·exact .inl hk
  ·exact .inr ⟨Nat.le_refl _,by simp⟩)
 refine⟨_,_,_,_,hrun,h4,.d ?_,hK⟩;rw[<-hrl];refine .sl _ 0 _ _ rows us' (Nat.le_refl _) ⟨_,Nat.le_refl _,.inr rfl⟩ hr1 ?_ (λi u hu=>?_) (λi u d hu hd=>?_)
 ·rw[hl,hrl]
 ·rw[Nat.zero_add,World.cell?_alloc_new]
  simpa using hu
 ·exact(hdat.2 i u d hu hd).mono (λ_ _ h=>.inl h) hk
theorem a5S (h:RelI I0 X w0 I g s a w) {n l:Int} {lo:Option Operand} (hb:a3p n (P4 s.get lo)=some l):(lo.map a.eval=none/\l=n)\/∃k,lo.map a.eval=some (.int k l):=by
 cases lo with
 | none =>
  simp only[P4,a3p,Option.some.injEq] at hb;exact .inl ⟨rfl,hb.symm⟩
 | some x =>
  simp only[P4] at hb;have hx:=h.get x;generalize s.get x=y at *;cases y with
  | d z =>
   cases z with
   | sc v =>
    cases v <;> first|(simp[a3p] at hb;done)|skip
    rename_i k m;simp only[a3p,Option.some.injEq] at hb;subst hb;exact .inr ⟨k,by rw[Option.map_some,hx.sc]⟩
   | sl sz rows=>simp[a3p] at hb
  | _=>simp[a3p] at hb
theorem a5T (isSlice:Bool) (len cap:Nat) (lo hi:Option Value) (l h:Int) (hlo:(lo=none/\l=0)\/∃k,lo=some (.int k l)) (hhi:(hi=none/\h=len)\/∃k,hi=some (.int k h)) (h0:0<=l) (h1:l<=h) (h2:h<=cap) :
  (Instr.sliceBounds isSlice len cap lo hi none).run Tryz.prog w=.ok (l.toNat,h.toNat,cap) w:=by
 have e1:((h.toNat:Nat):Int)=h:=Int.toNat_of_nonneg (by omega);have e2:0<=h:=by omega
 rcases hlo with⟨rfl,rfl⟩|⟨k,rfl⟩ <;> rcases hhi with⟨rfl,rfl⟩|⟨k',rfl⟩ <;> simp[Instr.sliceBounds,run_sliceBound, *]
theorem b4A (h:RelI I0 X w0 I g s a w) {K:V->Prop} {t:Nat} (ht:j6 t=true) (hte:∀e,(ty t).elem=some e->j6 e=true) {u:Value} {x:V} {lo hi:Option Operand} (hu:AtV I w g u x) (hK:a1H j1 s.o K t x (P4 s.get lo) (P4 s.get hi)) :
  Yld I0 X w0 g s a w (Instr.sliceAt t u (lo.map a.eval) (hi.map a.eval) none) K:=by
 unfold a1H at hK
 split at hK <;> try exact hK.elim
 rename_i l hl;have hlo:=a5S h hl
 split at hK <;> try exact hK.elim
 ·rename_i hk
  split at hK <;> try exact hK.elim
  rename_i b
  split at hK <;> try exact hK.elim
  rename_i hh hhb;have hhi:=a5S h hhb
  split at hK <;> try exact hK.elim
  rename_i c hc;obtain rfl:=hu.sc;have hun:=a2V ht hk;simp only[j1] at hc
  split at hc <;> try cases hc
  rename_i hbd;have hbr:=a5T (w:=w) false b.size b.size _ _ l hh hlo hhi hbd.1 hbd.2.1 hbd.2.2;refine Y5 h ?_ (ats _) hK
  simp[Instr.sliceAt,Instr.slice,run_underlying hun,hbr]
 ·rename_i hk
  split at hK <;> try exact hK.elim
  rename_i e he
  split at hK <;> try exact hK.elim
  rename_i sz rows hr
  split at hK <;> try exact hK.elim
  rename_i hsz
  split at hK <;> try exact hK.elim
  rename_i hh hhb;have hhi:=a5S h hhb
  split at hK <;> try exact hK.elim
  rename_i rs hrs;obtain⟨h1,h1'⟩:=a80 h hu hr;have h2:=b2f hsz h1 h1';obtain⟨A,cap,rfl,hcap,h3⟩:=h2.slice;simp only[j1] at hrs
  split at hrs <;> try cases hrs
  rename_i hbd;have hun:=H7 ht he;have hbr:=a5T (w:=w) true rows.length cap _ _ l hh hlo hhi hbd.1 hbd.2.1 (by omega)
  have hlen:((rows.drop l.toNat).take (hh.toNat - l.toNat)).length=hh.toNat - l.toNat:=by
   rw[List.length_take,List.length_drop];omega
  refine Y5 h (v:=sliced A l.toNat hh.toNat cap (ty e).sz) ?_ (.d ?_) hK
  ·simp[Instr.sliceAt,Instr.slice,run_underlying hun,hbr,L3 (hte e he),sliced]
  ·unfold sliced
   by_cases hemp:hh.toNat - l.toNat=0
   ·have:(rows.drop l.toNat).take (hh.toNat - l.toNat)=[]:=by rw[hemp];simp
    rw[this,hemp];exact .nil _ _ _
   ·rcases h3 with rfl|⟨b,off,us,rfl,hI,hrl,hul,hc,hd⟩
    ·simp at hbd;omega
    rw[if_neg (by omega)];have hsub:l.toNat * (ty e).sz+(hh.toNat - l.toNat) * (ty e).sz<=rows.length * (ty e).sz:=by rw[<-Nat.add_mul];exact Nat.mul_le_mul_right _ (by omega)
    have hflat:((rows.drop l.toNat).take (hh.toNat - l.toNat)).flatten=(rows.flatten.drop (l.toNat * (ty e).sz)).take ((hh.toNat - l.toNat) * (ty e).sz):=by
     have e1:rows=rows.take l.toNat++((rows.drop l.toNat).take (hh.toNat - l.toNat)++(rows.drop l.toNat).drop (hh.toNat - l.toNat)):=by rw[List.take_append_drop,List.take_append_drop]
     have f1:(rows.take l.toNat).flatten.length=l.toNat * (ty e).sz:=by
      rw[a0v λr hr=>hrl r (List.mem_of_mem_take hr),List.length_take,Nat.min_eq_left (by omega)]
     have f2:((rows.drop l.toNat).take (hh.toNat - l.toNat)).flatten.length=(hh.toNat - l.toNat) * (ty e).sz:=by
      rw[a0v λr hr=>hrl r (List.mem_of_mem_drop (List.mem_of_mem_take hr)),hlen]
     conv=>rhs;rw[e1]
     rw[List.flatten_append,List.flatten_append,<-f1,List.drop_left,<-f2,List.take_left]
    have hval:AtD I w (.slice (some ⟨b,off+l.toNat * (ty e).sz,none⟩) ((rows.drop l.toNat).take (hh.toNat - l.toNat)).length (cap - l.toNat)) (.sl (ty e).sz ((rows.drop l.toNat).take (hh.toNat - l.toNat))):=by
     refine .sl b _ _ _ _ ((us.drop (l.toNat * (ty e).sz)).take ((hh.toNat - l.toNat) * (ty e).sz)) (by rw[hlen];omega) (hI.down (by rw[hlen];omega)) (λr hr=>hrl r (List.mem_of_mem_drop (List.mem_of_mem_take hr))) ?_ (λi u hu=>?_) (λi u d hu hdd=>?_)
     ·rw[hlen,List.length_take,List.length_drop,hul];omega
     ·rw[List.getElem?_take] at hu
      split at hu
      ·rw[List.getElem?_drop] at hu;rw[Nat.add_assoc];exact hc _ _ hu
      ·cases hu
     ·rw[hflat,List.getElem?_take] at hdd;rw[List.getElem?_take] at hu
      split at hu
      ·rename_i hi;rw[if_pos hi,List.getElem?_drop] at hdd;rw[List.getElem?_drop] at hu;exact hd.2 _ _ _ hu hdd
      ·cases hu
    rw[hlen] at hval
    simpa [Addr.add_lit] using hval
 
theorem b6C (h:RelI I0 X w0 I g s a w) {K:V->Prop} {c u v:Value} {z x y:V} (hc:AtV I w g c z) (hu:AtV I w g u x) (hv:AtV I w g v y) (hK:a9r K x y z):Yld I0 X w0 g s a w (do pure (if <-asBool c then u else v)) K:=by
 unfold a9r at hK
 split at hK <;> try exact hK.elim
 rename_i b;obtain rfl:=hc.sc;cases b
 ·exact Y5 h (by simp[asBool]) hv hK
 ·exact Y5 h (by simp[asBool]) hu hK
end
end
section
section
variable {w:World}
def hit (r:R):List R->List MapEntry->Nat->Option (Nat×Value)
 | k::ks,e::es,i=>match rEq k r with|true=>some (i,e.val)|false=>hit r ks es (i+1)
 | _,_,_=>none
theorem a95 {t:Nat} {d:TypeDesc} {r:R} (hd:Tryz.prog.underlying t=some d):∀ {ks:List R} {es:List MapEntry} (i:Nat),es.map (·.key)=ks.map a0h->(∀k∈ks,KeyOk t r k w)->Instr.findNow d (a0h r) es i=some (hit r ks es i)\/Instr.findNow d (a0h r) es i=none
 | [],[],i,_,_=>.inl rfl
 | [],_::_,i,h,_=>by cases h
 | _::_,[],i,h,_=>by cases h
 | k::ks,e::es,i,h,hk=>by
  rw[List.map_cons,List.map_cons] at h;injection h with h1 h2;have h3:=(hk k (List.mem_cons_self ..)).now d hd;have ih:=a95 hd (i+1) h2 λk hm=>hk k (List.mem_cons_of_mem _ hm)
  simp only[Instr.findNow,hit,h1]
  rcases h3 with h3|h3
  ·rw[h3];cases rEq k r with
   | true=>exact .inl rfl
   | false=>exact ih
  ·rw[h3];exact .inr rfl
theorem a96 {t:Nat} {r:R}:∀ {ks:List R} {es:List MapEntry} (i:Nat),es.map (·.key)=ks.map a0h->(∀k∈ks,KeyOk t r k w)->(Instr.findAsking t (a0h r) es i).run Tryz.prog w=.ok (hit r ks es i) w
 | [],[],i,_,_=>rfl
 | [],_::_,i,h,_=>by cases h
 | _::_,[],i,h,_=>by cases h
 | k::ks,e::es,i,h,hk=>by
  rw[List.map_cons,List.map_cons] at h;obtain⟨h1,h2⟩:=List.cons.inj h;have ih:=a96 (t:=t) (i+1) h2 λk hm=>hk k (List.mem_cons_of_mem _ hm)
  rw[Instr.findAsking,hit,h1,Sem.run_bind,(hk k (List.mem_cons_self ..)).eq,Result.andThen_ok];cases hr:rEq k r with
  | true=>simp only[if_true,Sem.run_pure]
  | false=>simp only[Bool.false_eq_true,if_false];exact ih
theorem a5U {t:Nat} (ht:j6 t=true) {r:R} {ks:List R} {es:List MapEntry} (h:es.map (·.key)=ks.map a0h) (hk:∀k∈ks,KeyOk t r k w):(Instr.findKey t (a0h r) es).run Tryz.prog w=.ok (hit r ks es 0) w:=by
 have hag:=(a29 t ht).agg;cases hu:Tryz.prog.underlying t with
 | none=>rw[hu] at hag;cases hag
 | some d =>
  simp only[Instr.findKey,Sem.run_bind,run_underlying hu,Result.andThen_ok]
  rcases a95 hu 0 h hk with h1|h1
  ·rw[h1];rfl
  ·rw[h1];exact a96 0 h hk
end
section
variable {I0:Nat->Nat->Prop} {X:Nat->Prop} {w0:W0} {I:Nat->Nat->Prop} {g:Nat->Value} {s:S} {a:Act} {w:World}
theorem b0R {kt:Nat} {r q:R}:∀ {l:List MapEntry} {es:List (R×R)} (i:Nat),a8n I w kt l es ->
  (∃j e p,hit r (es.map (·.1)) l i=some (i+j,e.val)/\l[j]?=some e/\es[j]?=some p/\rEq p.1 r=true/\a2A es r=some p.2/\a0E es r q=es.set j (p.1,q))\/(hit r (es.map (·.1)) l i=none/\a2A es r=none/\a0E es r q=es++[(r,q)])
 | [],[],i,_=>.inr ⟨rfl,rfl,rfl⟩
 | [],_::_,i,h=>by have:=h.1;simp at this
 | _::_,[],i,h=>by have:=h.1;simp at this
 | e::l,(k,v)::es,i,h=>by
  have h':a8n I w kt l es:=⟨by have:=h.1;simpa using this,λj e p he hp=>h.2 (j+1) e p (by simpa using he) (by simpa using hp)⟩;simp only[List.map_cons,hit,a2A,a0E];cases hk:rEq k r with
  | true=>exact .inl ⟨0,e,(k,v),rfl,rfl,rfl,hk,rfl,rfl⟩
  | false =>
   rcases b0R (q:=q) (i+1) h' with⟨j,e',p,h1,h2,h3,h4,h5,h6⟩|⟨h1,h2,h3⟩
   ·exact .inl ⟨j+1,e',p,by rw[h1,Nat.add_assoc,Nat.add_comm 1 j],by simpa using h2,by simpa using h3,h4,h5,by rw[h6];rfl⟩
   ·exact .inr ⟨h1,h2,by rw[h3];rfl⟩
theorem b2g {kt:Nat} {l:List MapEntry} {es:List (R×R)} (h:a8n I w kt l es):l.map (·.key)=(es.map (·.1)).map a0h:=by
 refine List.ext_getElem? λi=>?_
 simp only[List.getElem?_map]
 rcases Nat.lt_or_ge i l.length with hi|hi
 ·have hi':i<es.length:=by rw[<-h.1];exact hi
  rw[List.getElem?_eq_getElem hi,List.getElem?_eq_getElem hi'];obtain⟨h1,_,h3⟩:=h.2 i _ _ (List.getElem?_eq_getElem hi) (List.getElem?_eq_getElem hi');exact congrArg some (a2x h1 h3)
 ·rw[List.getElem?_eq_none hi,List.getElem?_eq_none (by rw[<-h.1];exact hi)];rfl
theorem a97 {kt:Nat} (ht:j6 kt=true) (hf:∀u∈(ty kt).fty,j6 u=true) {r:R} (hr:a1A kt r=true) {l:List MapEntry} {es:List (R×R)} (h:a8n I w kt l es) (w':World):∀k∈es.map (·.1),KeyOk kt r k w':=by
 intro k hk;obtain⟨p,hp,rfl⟩:=List.mem_map.1 hk;obtain⟨i,hi⟩:=List.mem_iff_getElem?.1 hp;have hlt:i<l.length:=by rw[h.1];exact(List.getElem?_eq_some_iff.1 hi).1
 exact a81 ht hf hr (h.2 i _ _ (List.getElem?_eq_getElem hlt) hi).2.2
theorem b2h {e:Nat} (he:j6 e=true) {z:V} (hz:a0O (ty e).agg (C6 (ty e).zero)=some z):∃v,(zeroValue e).run Tryz.prog w=.ok v w/\AtV I w g v z:=by
 obtain⟨v,hv,hc⟩:=a5j he w;refine⟨v,hv,?_⟩;have hag:=(a29 e he).zag;obtain⟨x,z',h1,_,h3,_⟩:=a1m he
 have hv':v=z':=by
  simp only[zeroValue,typeInfo,Sem.run_bind,run_program,Result.andThen_ok,h1,h3,Sem.run_pure] at hv;exact(Result.ok.inj hv).1.symm
 rw[h1] at hag;simp only[Option.bind_some,h3,Option.map_some,Option.some.injEq] at hag;subst hv';cases hb:(ty e).agg with
 | true =>
  rw[hb] at hag hz;rw[a0O] at hz;injection hz with hz;subst hz;cases v <;> first|cases hag|skip
  rename_i us;simp only[Value.cells] at hc;rw[hc];exact a0F (K8 (ty e).zero)
 | false =>
  rw[hb] at hag hz;have hs:v.cells=#[v]:=by cases v <;> first|rfl|cases hag
  rw[hs] at hc
  have hz0:(ty e).zero=[v]:=by
   have:=congrArg Array.toList hc
   simpa using this.symm
  rw[hz0] at hz;have h4:=K8 (I:=I) (w:=w) (g:=g) [v];rw[C6,C6] at hz h4;rw[a0O] at hz;injection hz with hz;subst hz;exact h4.2 0 _ _ rfl rfl
theorem a5V (h:RelI I0 X w0 I g s a w) {K:V->Prop} {ok b:Bool} {v:Value} {x:V} {m:Sem Value} (hv:AtV I w g v x) (hm:m.run Tryz.prog w=.ok (if ok=true then .tuple #[v,.bool b] else v) w) (hK:a8k K ok b x):Yld I0 X w0 g s a w m K:=by
 cases ok with
 | true=>exact Y5 h hm (a0G (.cons hv (.cons (atb b) (.nil I w g)))) hK
 | false=>exact Y5 h hm hv hK
theorem b2i (h:RelI I0 X w0 I g s a w) {kt:Nat} {x:V} {u:Value} {r:R} (hu:AtV I w g u x) (hk:b65 s.o kt x=some r):AtR I w u r/\a1A kt r=true:=by
 unfold b65 at hk
 split at hk
 ·rename_i r' hr
  split at hk
  ·rename_i hb;injection hk with hk;subst hk;exact⟨a59 h hu hr,hb⟩
  ·cases hk
 ·cases hk
theorem a7x {t kt e:Nat} (h:a5B t=true) (hk:(ty t).key=some kt) (hv:(ty t).val=some e):j6 kt=true/\j6 e=true/\∀u∈(ty kt).fty,j6 u=true:=by
 unfold a5B at h;rw[hk,hv] at h;simp only[Bool.and_eq_true] at h;exact⟨h.1.1,h.1.2,List.all_eq_true.1 h.2⟩
theorem b6D (h:RelI I0 X w0 I g s a w) {K:V->Prop} {t:Nat} {ok:Bool} (ht:j6 t=true) (hm:a5B t=true) {v u:Value} {x i:V} (hv:AtV I w g v x) (hu:AtV I w g u i) (hK:a9u j1 s.o K t ok x i):Yld I0 X w0 g s a w (Instr.lookup t v u ok) K:=by
 unfold a9u at hK
 split at hK <;> try exact hK.elim
 rename_i hkd
 split at hK <;> try exact hK.elim
 rename_i kt e hkt hve
 split at hK <;> try exact hK.elim
 rename_i r hr;have hun:=b4v ht hkd hkt hve;obtain⟨k1,k2,k3⟩:=a7x hm hkt hve;obtain⟨h1,h2⟩:=b2i h hu hr;obtain rfl:=a2x h1 h2;have hchk:=(a81 k1 k3 h2 h2 (w:=w)).chk
 split at hK <;> try exact hK.elim
 ·rename_i k
  split at hK <;> try exact hK.elim
  rename_i kt' es ho
  split at hK <;> try exact hK.elim
  rename_i he;obtain rfl:=B2.1 he;obtain⟨b,l,c,g1,g2,g3,g4⟩:=h.obj k _ (A5 ho (by simp));obtain⟨b',hb',rfl⟩:=hv.unmp;rw[g1] at hb';injection hb' with hb'
  injection hb' with hb'
  subst hb';have hfind:=a5U k1 (b2g g3) (a97 k1 k3 h2 g3 w);have hget:j1.mlook es r=a2A es r:=rfl;rw[hget] at hK
  rcases b0R (r:=r) (q:=r) 0 g3 with⟨j,en,p,e1,e2,e3,e4,e5,_⟩|⟨e1,e5,_⟩
  ·rw[e5] at hK;rw[e1] at hfind;obtain⟨_,hval,_⟩:=g3.2 j _ _ e2 e3;refine a5V h (a8r g hval) ?_ hK;cases ok <;> simp[Instr.lookup,run_underlying hun,MapKept.run_getObj_map g2,hchk,hfind,Result.andThen]
  ·rw[e5] at hK;rw[e1] at hfind;simp only[a9t] at hK
   split at hK <;> try exact hK.elim
   rename_i z hz;obtain⟨zv,z1,z2⟩:=b2h (I:=I) (g:=g) (w:=w) k2 hz;refine a5V h z2 ?_ hK;cases ok <;> simp[Instr.lookup,run_underlying hun,MapKept.run_getObj_map g2,hchk,hfind,z1,Result.andThen]
 ·have:=hv.sc;subst this;simp only[a9t] at hK
  split at hK <;> try exact hK.elim
  rename_i z hz;obtain⟨zv,z1,z2⟩:=b2h (I:=I) (g:=g) (w:=w) k2 hz;refine a5V h z2 ?_ hK;have hfind:=a5U k1 (w:=w) (r:=r) (ks:=[]) (es:=[]) rfl (by simp);cases ok <;> simp[Instr.lookup,run_underlying hun,hchk,hfind,hit,z1,Result.andThen]
theorem b4B {k:TK} {x y:D} (hx:Y4 k x=true) (hy:Y4 k y=true) (h:dEq x y=true):x=y:=by
 rcases a33 hx with⟨q,m,hk,rfl⟩|⟨m,hk,rfl⟩|⟨m,hk,rfl⟩ <;> rcases a33 hy with⟨q',n,hk',rfl⟩|⟨n,hk',rfl⟩|⟨n,hk',rfl⟩ <;> rw[hk] at hk' <;> first|cases hk';done|skip
 ·have hk':=TK.int.inj hk';subst hk';rw[dEq,a32,beq_iff_eq] at h;rw[h]
 ·rw[dEq,a1p,beq_iff_eq] at h;obtain⟨⟨x⟩⟩:=m;obtain⟨⟨y⟩⟩:=n;simp only at h;rw[h]
 ·rw[dEq,a0I,beq_iff_eq] at h;rw[h]
theorem b2j:∀ {xs ys:List D} {us:List Nat} {fs:List (Nat×Nat)} {n:Nat},N5 us fs n xs=true->N5 us fs n ys=true->b0L xs ys=true->xs=ys
 | [],[],us,fs,n,_,_,_=>rfl
 | [],_::_,us,fs,n,_,_,h=>by cases h
 | _::_,[],us,fs,n,_,_,h=>by cases h
 | x::xs,y::ys,us,fs,n,hx,hy,h=>by
  rw[b0L] at h
  split at h
  ·rename_i h1;unfold N5 at hx
   split at hx
   ·contradiction
   ·rename_i u us off fs' n' d ds e3;obtain⟨e1,e2⟩:=List.cons.inj e3;subst e1;subst e2;rw[N5] at hy
    split at hx
    ·rename_i e;rw[e] at hy;simp only at hy
     split at hx
     ·rename_i h2
      split at hy
      ·rename_i h3;rw[b4B h2 h3 h1,b2j hx hy h]
      ·cases hy
     ·cases hx
    ·cases hx
   ·cases hx
  ·cases h
theorem b8E {t:Nat} {x y:R} (hx:a1A t x=true) (hy:a1A t y=true) (h:rEq x y=true):x=y:=by
 cases x with
 | one x =>
  cases y with
  | one y=>rw[b4B hx hy h]
  | ag ys=>cases h
 | ag xs =>
  cases y with
  | one y=>cases h
  | ag ys =>
   rw[a1A] at hx hy
   split at hx
   ·rename_i hk;rw[hk] at hy;simp only at hy
    split at hx
    ·rename_i hk;rw[hk] at hy;rw[b2j hx hy h]
    ·cases hx
   ·cases hx
theorem RelI.setMap (h:RelI I0 X w0 I g s a w) {k kt b c c':Nat} {es es':List (R×R)} {l l':Array MapEntry} (hk:s.o[k]?=some (.mp kt es)) (hg:g k=.map (some b)) (hb:w.heap[b]?=some (.map l c)) (hI:∀h,¬I b h) (hM:a1k X w0 b) (hes:a8n I w kt l'.toList es') :
  RelI I0 X w0 I g ⟨s.t,s.o.set k (.mp kt es')⟩ a (ChangeMaps.setBlock w b (.map l' c')):=by
 have hblk:gbl (g k) b:=by rw[hg];rfl
 have hlk:J1 s k:=⟨_,hk,by simp⟩;obtain⟨hs1,hs2⟩:=MapKept.heap_set (o':=.map l' c') hb;have hsz:(ChangeMaps.setBlock w b (.map l' c')).heap.size=w.heap.size:=by simp[ChangeMaps.setBlock]
 have hkp:A1 I w (ChangeMaps.setBlock w b (.map l' c')):=λb' h' hi i _=>by
  refine a3r (hs2 b' λe=>?_) i;subst e;exact hI _ hi
 refine⟨h.im,λb' h' hi=>by rw[hsz];exact h.lt b' h' hi,?_,h.kp.trans λb k hbk i hi=>hkp b k (h.im b k hbk) i hi,by simpa using h.lo,h.st,λj o hj=>?_,λi j b' hi hj=>h.dis i j b' (Z7 hk (by simp) hi) (Z7 hk (by simp) hj),λj hj=>h.out j (by simpa using hj),h.tmp.mono (λ_ _ h=>h) hkp,h.dfr⟩
 ·refine⟨h.fr.os,h.fr.tape,h.fr.output,by rw[hsz];exact h.fr.size,λb' hb' hX=>?_⟩;refine(hs2 b' λe=>?_).trans (h.fr.block b' hb' hX);subst e
  rcases hM with hM|hM
  ·omega
  ·exact hX hM
 ·by_cases e:k=j
  ·subst e;have hlt:k<s.o.length:=(List.getElem?_eq_some_iff.1 hk).1;simp only[List.getElem?_set_self hlt] at hj;have hj:=Option.some.inj hj;subst hj;exact⟨b,l',c',hg,hs1,hes.mono (λ_ _ h=>h) hkp,hI,hM⟩
  ·simp only[List.getElem?_set_ne e] at hj;have ho:=h.obj j o hj
   by_cases hd:o=.dead
   ·subst hd;exact True.intro
   ·refine ho.keep (λ_ _ h=>h) hkp (λb' hb'=>hs2 b' λe'=>?_) λ_ _ _ h=>h
    subst e';exact e (h.dis k j _ hlk ⟨o,hj,hd⟩ hblk hb')
theorem b8F (h:RelI I0 X w0 I g s a w) {K:S->Prop} {t:Nat} (ht:j6 t=true) (hm:a5B t=true) {v u q:Value} {x i y:V} (hv:AtV I w g v x) (hu:AtV I w g u i) (hq:AtV I w g q y) (hK:a9v j1 s K t x i y):∃w' s',(Instr.mapUpdate t v u q).run Tryz.prog w=.ok () w'/\RelI I0 X w0 I g s' a w'/\K s':=by
 unfold a9v at hK
 split at hK <;> try exact hK.elim
 rename_i hkd
 split at hK <;> try exact hK.elim
 rename_i kt k hkt
 split at hK <;> try exact hK.elim
 rename_i r qr kt' es hr hqr ho
 split at hK <;> try exact hK.elim
 rename_i he;obtain rfl:=B2.1 he;obtain⟨b',hb',rfl⟩:=hv.unmp;have hok:=A5 ho (by simp);obtain⟨b,l,c,g1,g2,g3,g4,g5⟩:=h.obj k _ hok;rw[g1] at hb';have hb':=Option.some.inj (Value.map.inj hb');subst hb';have hmo:=hm;unfold a5B at hmo;rw[hkt] at hmo
 split at hmo
 ·rename_i kt0 e hkt0 hve;have hkt0:=Option.some.inj hkt0;subst hkt0;have hun:=b4v ht hkd hkt hve;obtain⟨k1,k2,k3⟩:=a7x hm hkt hve;obtain⟨h1,h2⟩:=b2i h hu hr;obtain rfl:=a2x h1 h2;have hqa:=a59 h hq hqr;have hko:=a81 k1 k3 h2 h2 (w:=w);have hfind:=a5U k1 (b2g g3) (a97 k1 k3 h2 g3 w);have hput:j1.mput es r qr=a0E es r qr:=rfl;rw[hput,H5] at hK
  rcases b0R (r:=r) (q:=qr) 0 g3 with⟨j,en,p,e1,e2,e3,e4,_,e6⟩|⟨e1,_,e6⟩
  ·rw[e6] at hK;rw[e1,Nat.zero_add] at hfind;obtain⟨p1,p2,p3⟩:=g3.2 j _ _ e2 e3;have hre:=b8E p3 h2 e4;have hkey:en.key=a0h r:=by rw[a2x p1 p3,hre]
   have hst:(Instr.keyThatStays (a0h r) (a0h r)).run Tryz.prog w=.ok (a0h r) w:=by
    simp only[Instr.keyThatStays,hko.bits,if_true,Sem.run_pure]
   have hlj:l[j]?=some en:=by rw[<-Array.getElem?_toList];exact e2
   refine⟨ChangeMaps.setBlock w b (.map (l.modify j λe=>{ e with key:=a0h r,val:=q }) c),_,?_,h.setMap (es':=es.set j (p.1,qr)) hok g1 g2 g4 g5 ⟨by simp[g3.1],λi e2' p' he' hp'=>?_⟩,hK⟩
   ·simp[Instr.mapUpdate,run_underlying hun,MapKept.run_getObj_map g2,hko.chk,hfind,hlj,hkey,hst,MapKept.run_setObj_map _ g2,Result.andThen,ChangeMaps.setBlock]
   ·by_cases hij:j=i
    ·subst hij;have hl1:j<es.length:=(List.getElem?_eq_some_iff.1 e3).1;rw[List.getElem?_set_self hl1] at hp';have hp':=Option.some.inj hp';subst hp';rw[Array.getElem?_toList,Array.getElem?_modify,if_pos rfl,hlj] at he';have he':=Option.some.inj he';subst he';refine⟨?_,hqa,p3⟩;show AtR I w (a0h r) p.1;rw[<-hkey];exact p1
    ·rw[List.getElem?_set_ne hij] at hp';rw[Array.getElem?_toList,Array.getElem?_modify,if_neg hij,<-Array.getElem?_toList] at he';exact g3.2 i _ _ he' hp'
  ·rw[e6] at hK;rw[e1] at hfind;refine⟨ChangeMaps.setBlock w b (.map (l.push { key:=a0h r,val:=q,born:=c }) (c+1)),_,?_,h.setMap (es':=es++[(r,qr)]) hok g1 g2 g4 g5 ⟨by simp[g3.1],λi e2' p' he' hp'=>?_⟩,hK⟩
   ·simp[Instr.mapUpdate,run_underlying hun,MapKept.run_getObj_map g2,hko.chk,hfind,MapKept.run_setObj_map _ g2,Result.andThen,ChangeMaps.setBlock]
   ·rw[Array.toList_push] at he'
    rcases Nat.lt_or_ge i l.toList.length with hi|hi
    ·rw[List.getElem?_append_left hi] at he';rw[List.getElem?_append_left (by rw[<-g3.1];exact hi)] at hp';exact g3.2 i _ _ he' hp'
    ·rw[List.getElem?_append_right hi] at he';rw[List.getElem?_append_right (by rw[<-g3.1];exact hi),<-g3.1] at hp';cases hd:i - l.toList.length with
     | zero =>
      rw[hd] at he' hp';have he':=Option.some.inj he';have hp':=Option.some.inj hp';subst he';subst hp';exact⟨h1,hqa,h2⟩
     | succ n=>rw[hd] at he';simp at he'
 ·cases hmo
theorem c0l (h:RelI I0 X w0 I g s a w) {kt:Nat}:∃g',g' s.o.length=.map (some w.heap.size)/\RelI I0 X w0 I g' (s.obj (.mp kt [])) a (w.alloc (.map #[] 0)):=by
 have hb:Below w.heap.size w (w.alloc (.map #[] 0)):=(Below.refl _ _).alloc (Nat.le_refl _) _;have h2:=h.grow hb (I':=I) (λ_ _ h=>h) (λ_ _ h=>.inl h);refine⟨upd g s.o.length (.map (some w.heap.size)),n7 ..,h2.newObj _ _ ⟨w.heap.size,#[],0,n7 ..,(MapKept.heap_alloc w _).1,⟨rfl,λi e p he=>by simp at he⟩,λk hk'=>?_,.inl h.fr.size⟩ λj b hj hbj e=>?_⟩
 ·exact absurd (h.lt _ _ hk').1 (by omega)
 ·have e:w.heap.size=b:=e;have:=h.blk_lt hj hbj;omega
end
end
section
theorem a4t {t:Nat} (h:a9x t=true):(ty t).kind=.array->∀e,(ty t).val=some e->j6 e=true:=λhk e he=>by
 unfold a9x at h;rw[hk,he] at h;exact h
section
variable {I0:Nat->Nat->Prop} {X:Nat->Prop} {w0:W0} {I:Nat->Nat->Prop} {g:Nat->Value} {s:S} {a:Act} {w:World}
theorem T4 {o:Oper} {Q:Exit->Act->World->Prop} {K:S->Prop} {m:Sem Value} (he:execOp a.eval o=(do pure (.value (<-m)))) (hy:Yld I0 X w0 g s a w m λx=>K (s.put o.dst x)):o.wp Tryz.prog a w (λa' w'=>∃s',Z3 I0 X w0 s' a' w'/\K s') Q:=by
 obtain⟨v,x,w',I',h1,h2,h3,h4⟩:=hy;unfold Oper.wp;rw[he];simp only[Sem.run_bind,h1,Result.andThen_ok,Sem.run_pure];rw[Oper.upon_value];exact⟨_,⟨I',g,h2.put h3 _⟩,h4⟩
theorem a5l {o:Oper} {Q:Exit->Act->World->Prop} {K:S->Prop} {m:Sem Value} (he:(execOp a.eval o).run Tryz.prog w=(m.run Tryz.prog w).andThen λv w'=>.ok (.value v) w') (hy:Yld I0 X w0 g s a w m λx=>K (s.put o.dst x)):o.wp Tryz.prog a w (λa' w'=>∃s',Z3 I0 X w0 s' a' w'/\K s') Q:=by
 obtain⟨v,x,w',I',h1,h2,h3,h4⟩:=hy;unfold Oper.wp;rw[he,h1,Result.andThen_ok,Oper.upon_value];exact⟨_,⟨I',g,h2.put h3 _⟩,h4⟩
theorem b0S {o:Oper} {Q:Exit->Act->World->Prop} {K:S->Prop} (h:RelI I0 X w0 I g s a w) {v:Value} {x:V} (he:execOp a.eval o=pure (.value v)) (hv:AtV I w g v x) (hK:K (s.put o.dst x)):o.wp Tryz.prog a w (λa' w'=>∃s',Z3 I0 X w0 s' a' w'/\K s') Q:=by
 unfold Oper.wp;rw[he,Sem.run_pure,Oper.upon_value];exact⟨_,⟨I,g,h.put hv _⟩,hK⟩
theorem a1r {t:Nat} (h:a4j t=true):∀e,(ty t).elem=some e->j6 e=true:=λe he=>by
 unfold a4j at h;rw[he] at h;exact h
theorem a0l {o:Oper} {f:Nat} {x:Operand} {args:Array Operand} {ts:Array Nat} {cs:List Value} (ho:o.op=.call ⟨.value x,args,ts⟩) (hx:a.eval x=.func (.func f) #[] cs.toArray) (hf:a0T Tryz.prog f=true):(execOp a.eval o).run Tryz.prog w=.ok (.enter f (args.toList.map a.eval++cs).toArray) w:=by
 unfold a0T at hf;cases hfn:Tryz.prog.funcs[f]? with
 | none=>rw[hfn] at hf;cases hf
 | some fn =>
  rw[hfn] at hf;simp only[Bool.and_eq_true,bne_iff_ne,ne_eq] at hf;have h1:(fn.name == "runtime.NumGoroutine")=false:=beq_eq_false_iff_ne.2 hf.1
  have h2:fn.body.isNone=false:=by
   cases hb:fn.body with
   | none=>rw[hb] at hf;simp at hf
   | some c=>rfl
  have h4:(args.map a.eval)++cs.toArray=(args.toList.map a.eval++cs).toArray:=by apply Array.ext';simp
  unfold execOp;simp only[ho,resolve,hx,Deferred.ofValue,invoke,callFunc,Sem.run_bind,Sem.run_pure,Result.andThen_ok,program,Sem.run,hfn,h1,h2,<-h4]
  simp
theorem b6E (h:RelI I0 X w0 I g s a w) {o:Oper} {Q:Exit->Act->World->Prop} {K:S->Prop} {f:Nat} {us:List Value} {vs:List V} {rs q:List R} (hrun:a0T Tryz.prog f=true->(execOp a.eval o).run Tryz.prog w=.ok (.enter f us.toArray) w) (hv:n6 I w g us vs) (hrs:a7b s.o vs=some rs) (hq:j5 f rs q) (hK:K (s.put o.dst (b3g q))):o.wp Tryz.prog a w (λa' w'=>∃s',Z3 I0 X w0 s' a' w'/\K s') Q:=by
 have hat:=a8t h hv hrs;have hc:=hq.2 I w _ h.wld hat;unfold Oper.wp;rw[hrun hq.1,Oper.upon_enter];refine hc.mono ?_
 rintro e w' ⟨v,rfl,hres,hbel⟩
 have h5:=h.grow hbel (I':=nxt I w w') (λ_ _ h=>.inl h) (λ_ _ h=>h);exact⟨_,⟨_,g,h5.put (b2b g hres) _⟩,hK⟩
theorem a5W (h:RelI I0 X w0 I g s a w) {o:Oper} {Q:Exit->Act->World->Prop} {K:S->Prop} {f:Nat} {us:List Value} {vs:List V} (hrun:a0T Tryz.prog f=true->(execOp a.eval o).run Tryz.prog w=.ok (.enter f us.toArray) w) (hv:n6 I w g us vs) (hK:j1.callo f vs s (λv s'=>K (s'.put o.dst v))):o.wp Tryz.prog a w (λa' w'=>∃s',Z3 I0 X w0 s' a' w'/\K s') Q:=by
 obtain⟨hf,hK⟩:=hK;unfold Oper.wp;rw[hrun hf,Oper.upon_enter];refine(hK I0 X w0 I g s.t a w us h hv).mono ?_
 rintro e w' ⟨v,x,o',ks,I',g',rfl,h',hv',hK⟩
 exact⟨_,⟨I',g',h'.put hv' _⟩,hK⟩
theorem b4C (h:RelI I0 X w0 I g s a w) {o:Oper} {Q:Exit->Act->World->Prop} {K:S->Prop} {f:Nat} {us:List Value} {vs:List V} {l:List Nat} (hrun:a0T Tryz.prog f=true->(execOp a.eval o).run Tryz.prog w=.ok (.enter f us.toArray) w) (hv:n6 I w g us vs) (hK:j1.callx f vs l s (λv s'=>K (s'.put o.dst v))):o.wp Tryz.prog a w (λa' w'=>∃s',Z3 I0 X w0 s' a' w'/\K s') Q:=by
 obtain⟨hf,hK⟩:=hK;unfold Oper.wp;rw[hrun hf,Oper.upon_enter];refine(hK I0 X w0 I g s.t a w us h hv).mono ?_
 rintro e w' ⟨v,x,o',I',g',rfl,h',hv',_,hK⟩
 exact⟨_,⟨I',g',h'.put hv' _⟩,hK⟩
theorem b2k (h:RelI I0 X w0 I g s a w) {o:Oper} {Q:Exit->Act->World->Prop} {K:S->Prop} {f:Nat} {us:List Value} {vs:List V} (hrun:a0T Tryz.prog f=true->(execOp a.eval o).run Tryz.prog w=.ok (.enter f us.toArray) w) (hv:n6 I w g us vs)
  (hK:a7n j1 s.o (λx=>K (s.put o.dst x)) f vs):o.wp Tryz.prog a w (λa' w'=>∃s',Z3 I0 X w0 s' a' w'/\K s') Q:=by
 unfold a7n at hK
 split at hK
 ·rename_i rs hrs;obtain⟨q,hq,hK⟩:=hK;exact b6E h hrun hv hrs hq hK
 ·obtain⟨q,⟨hf,hq⟩,hK⟩:=hK;unfold Oper.wp;rw[hrun hf,Oper.upon_enter];refine(hq I0 X w0 I g s.t a w _ h hv).mono ?_
  rintro e w' ⟨v,I',g',rfl,h',hres⟩
  exact⟨_,⟨I',g',h'.put hres _⟩,hK⟩
theorem b2l (h:RelI I0 X w0 I g s a w):∀ {l:List V} {us:List Value} {ks:List Nat},n6 I w g us l->a9s l=some ks->us.length=ks.length/\∀(i:Nat) (u:Value) (k:Nat),us[i]?=some u->ks[i]?=some k->u=g k/\∃b,g k=.pointer (some ⟨b,0,none⟩)
 | [],us,ks,hv,hp=>by
  rw[a9s] at hp;injection hp with hp;subst hp;rw[hv.unnil];exact⟨rfl,λi u k hu=>by simp at hu⟩
 | x::l,us,ks,hv,hp=>by
  obtain⟨u,us',rfl,h1,h2⟩:=hv.uncons;unfold a9s at hp
  split at hp
  ·rename_i e;cases e
  ·rename_i k l' e;injection e with e1 e2;subst e1;subst e2
   split at hp
   ·rename_i ks' hks;injection hp with hp;subst hp;obtain⟨h3,h4⟩:=b2l h h2 hks;obtain⟨b,hg,rfl⟩:=h1.unptr;refine⟨by simp[h3],λi v j hv hj=>?_⟩;cases i with
    | zero=>simp at hv hj;subst hv;subst hj;exact⟨hg.symm,b,hg⟩
    | succ i=>exact h4 i v j (by simpa using hv) (by simpa using hj)
   ·cases hp
  ·cases hp
theorem a82:∀ {ks:List Nat} {us:List Value},us.length=ks.length->(∀(i:Nat) (u:Value) (k:Nat),us[i]?=some u->ks[i]?=some k->u=g k/\∃b,g k=.pointer (some ⟨b,0,none⟩))->n6 I w g us (a54 ks)
 | [],us,hl,_=>by rw[List.eq_nil_of_length_eq_zero hl];exact .nil I w g
 | k::ks,[],hl,_=>by simp at hl
 | k::ks,u::us,hl,h=>by
  obtain⟨h1,b,h2⟩:=h 0 u k rfl rfl;refine .cons ?_ (a82 (by simpa using hl) λi v j hv hj=>h (i+1) v j (by simpa using hv) (by simpa using hj));rw[h1,h2];exact .ptr k 0 b h2
theorem a08:∀l m:List V,a2B l m=l++m
 | [],m=>rfl
 | x::l,m=>by rw[a2B,a08 l m];rfl
theorem b8G (h:RelI I0 X w0 I g s a w) {o:Oper} {Q:Exit->Act->World->Prop} {K:S->Prop} {t n:Nat} {ps:Array (Nat×Operand)} (ho:o.op=.buildSlice t (n+1) ps) (hop:Z8 Tryz.prog o.op=true) (hK:b83 j1 s o.dst K t (n+1) ps.toList):o.wp Tryz.prog a w (λa' w'=>∃s',Z3 I0 X w0 s' a' w'/\K s') Q:=by
 rw[ho] at hop;simp only[Z8,Bool.and_eq_true] at hop;unfold b83 at hK
 split at hK <;> try exact hK.elim
 rename_i e he
 have hte:∀e,(ty t).elem=some e->j6 e=true/\(n+1) * (ty e).sz<=16777216:=λe he=>by
  have h2:=hop.2;rw[he] at h2;simp only[Bool.and_eq_true] at h2;exact⟨h2.1,Nat.le_of_ble_eq_true h2.2⟩
 obtain⟨e',rows,us,he',hke,hrun,hl,hrl,hr1,hat,hK⟩:=a1T h hop.1.1 hte ps hK;rw[he] at he';injection he' with he'
 subst he';obtain⟨z0,hK⟩:=hK;have hb:Below w.heap.size w (w.alloc (.cells us.toArray e)):=(Below.refl _ _).alloc (Nat.le_refl _) _;have hk:A1 I w (w.alloc (.cells us.toArray e)):=λb k hbk i _=>hb.cell (p:=⟨b,i,none⟩) (h.lt b k hbk).1
 have h2:=h.grow hb (I':=λb k=>I b k\/(z0=true/\b=w.heap.size/\k<=(n+1) * (ty e).sz)) (λ_ _ h=>.inl h) (λb k hk=>by
  rcases hk with hk|⟨_,hk,_⟩
  ·exact .inl hk
  ·exact .inr ⟨by omega,by simp[hk]⟩)
 have h3:=h2.newObj (.row z0 e rows) (.slice (some ⟨w.heap.size,0,none⟩) (n+1) (n+1)) ⟨us,by
   rw[n7,hrl];refine⟨hl,.inr ⟨w.heap.size,n+1,us.toArray,rfl,Nat.zero_le _,heap_alloc_new w _,Nat.le_refl _,?_,by simp[hl],by simp[<-hl]⟩⟩;have:=Nat.le_of_ble_eq_true hop.1.2;unfold maxLen
   omega,hr1,hat.mono (λ_ _ h=>.inl h) hk,λb hb=>by
   rw[n7] at hb;have hb:=Option.some.inj hb;subst hb;refine⟨λhz=>.inr ⟨hz,rfl,by rw[hrl];exact Nat.le_refl _⟩,λk hk=>?_,.inl h.fr.size⟩
   rcases hk with hk|⟨hz,_,hk⟩
   ·exact absurd (h.lt _ _ hk).1 (Nat.lt_irrefl _)
   ·exact⟨hz,by rw[hrl];exact hk⟩⟩ (λj b hj hb hb'=>by
   have hb':w.heap.size=b:=hb';have h4:=h.blk_lt hj hb
   omega)
 unfold Oper.wp
 have hex:(execOp a.eval o).run Tryz.prog w=.ok (.value (.slice (some ⟨w.heap.size,0,none⟩) (n+1) (n+1))) (w.alloc (.cells us.toArray e)):=by
  unfold execOp;rw[ho];simp only[Sem.run_bind,hrun,Result.andThen_ok,Sem.run_pure]
 rw[hex,Oper.upon_value];exact⟨_,⟨_,_,h3.put (x:=.own (o7 s.o)) (.own _ _ _ _ (by rw[r6,n7];rfl)) _⟩,hK⟩
set_option maxRecDepth 20000 in
theorem b4D (h:RelI I0 X w0 I g s a w) {i f:Nat} {ks:List Nat} (hf:fnV (o6 s.t i)=some (f,ks)):∃cs:List Value,a.eval (.tmp i)=.func (.func f) #[] cs.toArray/\n6 I w g cs (a54 ks):=by
 have hx:AtV I w g (a.eval (.tmp i)) (o6 s.t i):=h.get (.tmp i);unfold fnV at hf
 split at hf
 ·rename_i f' ks' hcl;injection hf with hf;injection hf with e1 e2;subst e1;subst e2;rw[hcl] at hx;generalize a.eval (.tmp i)=y at hx ⊢;cases hx with
  | cl f us ks hl h2=>exact⟨us,rfl,a82 hl h2⟩
 ·rename_i f' hd;injection hf with hf;injection hf with e1 e2;subst e1;subst e2;rw[hd] at hx;exact⟨[],hx.sc,.nil I w g⟩
 ·cases hf
theorem b4E (h:RelI I0 X w0 I g s a w) {x:Operand} {f:Nat} {ks:List Nat} (hf:fnV (s.get x)=some (f,ks)):∃cs:List Value,a.eval x=.func (.func f) #[] cs.toArray/\n6 I w g cs (a54 ks):=by
 have hx:AtV I w g (a.eval x) (s.get x):=h.get x;unfold fnV at hf
 split at hf
 ·rename_i f' ks' hcl;injection hf with hf;injection hf with e1 e2;subst e1;subst e2;rw[hcl] at hx;generalize a.eval x=y at hx ⊢;cases hx with
  | cl f us ks hl h2=>exact⟨us,rfl,a82 hl h2⟩
 ·rename_i f' hd;injection hf with hf;injection hf with e1 e2;subst e1;subst e2;rw[hd] at hx;exact⟨[],hx.sc,.nil I w g⟩
 ·cases hf
set_option maxRecDepth 10000 in
theorem a35 (h:RelI I0 X w0 I g s a w) {o:Oper} {Q:Exit->Act->World->Prop} {K:S->Prop} (hop:Z8 Tryz.prog o.op=true) (hK:E6 j1 s.get s.o (λx=>K (s.put o.dst x)) o.op):o.wp Tryz.prog a w (λa' w'=>∃s',Z3 I0 X w0 s' a' w'/\K s') Q:=by
 obtain⟨dst,op,type,pos,after,gd⟩:=o;simp only at hop hK ⊢;unfold E6 at hK
 split at hK <;> try exact hK.elim
 ·rename_i x;exact b0S h rfl (h.get x) hK
 ·rename_i x;exact b0S h rfl (h.get x) hK
 ·rename_i c x y;exact a5l (by simp only[execOp,Sem.run_bind];cases (asBool (a.eval c)).run Tryz.prog w <;> rfl) (b6C h (h.get c) (h.get x) (h.get y) hK)
 ·rename_i t x;exact T4 rfl (b68 h hop (h.get x) hK)
 ·rename_i t x i;exact T4 rfl (b43 h hop (h.get x) hK)
 ·rename_i t x i;simp only[Z8,Bool.and_eq_true] at hop;exact T4 rfl (b69 h hop.1 (λu hu=>List.all_eq_true.1 hop.2 u (List.mem_of_getElem? hu)) (h.get x) hK)
 ·rename_i t x i;simp only[Z8,Bool.and_eq_true] at hop;exact T4 rfl (b44 h hop.1.1 (a1r hop.1.2) (a4t hop.2) (h.get x) (h.get i) hK)
 ·rename_i t x i;simp only[Z8,Bool.and_eq_true] at hop;exact T4 rfl (b6B h hop.1 (a4t hop.2) (h.get x) (h.get i) hK)
 ·rename_i op t x y yt;exact T4 rfl (b8C h hop x y (h.get x) (h.get y) hK)
 ·rename_i op t x;exact T4 rfl (c0j h (h.get x) hK)
 ·rename_i t0 t x;simp only[Z8,Bool.and_eq_true] at hop;exact T4 rfl (b6A h hop.1.1 hop.1.2 hop.2 (h.get x) hK)
 ·rename_i t ps;simp only[Z8,Bool.and_eq_true] at hop;exact T4 rfl (b48 h hop.1 (a4t hop.2) ps hK)
 ·rename_i t n ps;simp only[Z8,Bool.and_eq_true] at hop;refine T4 rfl (a7d h hop.1.1 (λe he=>?_) ps hK);have h2:=hop.2;rw[he] at h2;simp only[Bool.and_eq_true] at h2;exact⟨h2.1,Nat.le_of_ble_eq_true h2.2⟩
 ·rename_i x i;exact T4 rfl (b0Q h (h.get x) hK)
 ·rename_i t x lo hi;simp only[Z8,Bool.and_eq_true] at hop;exact T4 rfl (b4A h hop.1 (a1r hop.2) (h.get x) hK)
 ·rename_i x t;refine a5l (m:=Builtin.len_ #[t] type #[a.eval x]) ?_ (b8D h hop (h.get x) hK)
  simp[execOp,resolve,invoke,builtin]
 ·rename_i f args ts;exact b2k h (λhf=>a0l (cs:=[]) rfl rfl hf) (by rw[List.append_nil];exact h.gets args.toList) hK
 ·rename_i t x i ok;simp only[Z8,Bool.and_eq_true] at hop;exact T4 rfl (b6D h hop.1 hop.2 (h.get x) (h.get i) hK)
 ·rename_i args ts;have e:args.map a.eval=(args.toList.map a.eval).toArray:=by apply Array.ext';simp
  refine a5l (s:=s) (g:=g) (m:=Builtin.min_ ts type (args.map a.eval)) (by simp[execOp,resolve,invoke,builtin]) ?_;rw[e];exact b49 (mx:=false) (ts:=ts) (ty':=type) h (h.gets args.toList) hK
 ·rename_i args ts;have e:args.map a.eval=(args.toList.map a.eval).toArray:=by apply Array.ext';simp
  refine a5l (s:=s) (g:=g) (m:=Builtin.max_ ts type (args.map a.eval)) (by simp[execOp,resolve,invoke,builtin]) ?_;rw[e];exact b49 (mx:=true) (ts:=ts) (ty':=type) h (h.gets args.toList) hK
 ·rename_i x;obtain⟨h1,_,h2⟩:=c0k h (h.get x) hK;refine b0S h (v:=a.eval x) ?_ (h.get x) h1;unfold execOp
  rcases h2 with⟨b,hb⟩|⟨f,cs,hb⟩ <;> simp only[hb]
 ·rename_i f cs
  split at hK <;> try exact hK.elim
  rename_i ks hks;obtain⟨h1,h2⟩:=b2l h (h.gets cs.toList) hks;have e:cs.map a.eval=(cs.toList.map a.eval).toArray:=by apply Array.ext';simp
  refine T4 rfl (Y5 (v:=.func (.func f) #[] (cs.toList.map a.eval).toArray) h ?_ (.cl f _ ks h1 h2) hK);rw[e]
  simp[Instr.makeFunc]
 ·rename_i i args ts;unfold a8m at hK
  split at hK <;> try exact hK.elim
  rename_i f ks hf;obtain⟨cs,hc1,hc2⟩:=b4D h hf;exact b2k h (λhf=>a0l (cs:=cs) rfl hc1 hf) (by rw[a08];exact(h.gets args.toList).append hc2) hK
theorem b4F {o:Oper} {Q:Exit->Act->World->Prop} {K:S->Prop} (h:RelI I0 X w0 I g s a w) {us:List Value} {cs:List V} {t:Nat} (hu:n6 I w g us cs) (h1:∀u∈us,u.oneCell'=true)
  (he:(execOp a.eval o).run Tryz.prog w=.ok (.value (.pointer (some ⟨w.heap.size,0,none⟩))) (w.alloc (.cells us.toArray t))) (hK:K ((s.obj (.box cs)).put o.dst (.ptr (o7 s.o) 0))):o.wp Tryz.prog a w (λa' w'=>∃s',Z3 I0 X w0 s' a' w'/\K s') Q:=by
 unfold Oper.wp;rw[he,Oper.upon_value];obtain⟨g',hg,h2⟩:=h.box hu h1 t;rw[<-r6] at hg;exact⟨_,⟨I,g',h2.put (.ptr _ 0 _ hg) _⟩,hK⟩
theorem b4G {o:Oper} {Q:Exit->Act->World->Prop} {K:S->Prop} (h:RelI I0 X w0 I g s a w) {us:List Value} {t:Nat}
  (he:(execOp a.eval o).run Tryz.prog w=.ok (.value (.pointer (some ⟨w.heap.size,0,none⟩))) (w.alloc (.cells us.toArray t))) (hK:K ((s.obj (.ob t us)).put o.dst (.ptr (o7 s.o) 0))):o.wp Tryz.prog a w (λa' w'=>∃s',Z3 I0 X w0 s' a' w'/\K s') Q:=by
 unfold Oper.wp;rw[he,Oper.upon_value];obtain⟨g',hg,h2⟩:=h.obNew us t;rw[<-r6] at hg;exact⟨_,⟨I,g',h2.put (.ptr _ 0 _ hg) _⟩,hK⟩
theorem a4O (I:Nat->Nat->Prop) (w:World) (g:Nat->Value) {l:List Value} (h:a1F (C6 l)=true):∀u∈l,u.oneCell'=true:=a8z (I:=I) (w:=w) (g:=g) (K8 l) h
theorem b3q {m:Bool} (h:RelI I0 X w0 I g s a w) {o:Oper} {Q:Exit->Act->World->Prop} {K:S->Prop} {x y:Operand} {t:Nat} (ho:o.op=.call ⟨.builtin .append,⟨[x,y]⟩,⟨[t,t]⟩⟩) (ht:j6 t=true) (hte:∀e,(ty t).elem=some e->j6 e=true/\0<(ty e).sz)
  (hK:H4 j1 m s o.dst K t (s.get x) (s.get y)):o.wp Tryz.prog a w (λa' w'=>∃s',Z3 I0 X w0 s' a' w'/\K s') Q:=by
 unfold H4 at hK
 split at hK <;> try exact hK.elim
 rename_i e he
 split at hK <;> try exact hK.elim
 rename_i sz ys hys
 split at hK <;> try exact hK.elim
 rename_i hsz;obtain⟨hke,hpos⟩:=hte e he;have hun:=H7 ht he;obtain⟨i,z,hi,his,hiz,hzc,hzl,hby⟩:=a1m hke;have hzs:z.cells.size=(ty e).sz:=by rw[hzc];simp[hzl]
 obtain⟨hd,hnil⟩:=a80 h (h.get y) hys;have hd2:=b2f hsz hd hnil;obtain⟨A,cap,hyv,hcap,hrows⟩:=hd2.slice
 obtain⟨vs,hsrc,hrl,hvs⟩:∃vs,b8d w A ys.length (ty e).sz vs/\(∀r∈ys,r.length=(ty e).sz)/\A8 I w vs ys.flatten:=by
  rcases hrows with rfl|⟨b,off,us,rfl,hI,hrl,hl,hc,hds⟩
  ·exact⟨[],⟨by simp,by simp,λad _ j u hu=>by simp at hu,by simp⟩,by simp,.nil I w⟩
  ·exact⟨us,⟨hl,by simp,λad had j u hu=>by have h9:=Option.some.inj had;rw[<-h9,Addr.add_lit];exact hc j u hu,hds.one⟩,hrl,hds⟩
 have room:∀n,n+ys.length<=137438953472->n+ys.length<=maxLen/\(n+ys.length) * i.bytes<=140737488355328:=λn hn=>by
  refine⟨by unfold maxLen;omega,?_⟩
  have h1:(n+ys.length) * i.bytes<=137438953472 * 1024:=Nat.mul_le_mul hn hby
  omega
 have hexec:∀v' w',(Builtin.append_ #[t,t] o.type #[a.eval x,.slice A ys.length cap]).run Tryz.prog w=.ok v' w'->(execOp a.eval o).run Tryz.prog w=.ok (.value v') w':=λv' w' hr=>by
  unfold execOp;rw[ho];simp only[resolve,invoke,builtin,Sem.run_bind,Sem.run_pure,Result.andThen_ok,List.map_toArray,List.map_cons,List.map_nil,hyv,hr]
 have hx:=h.get x
 split at hK <;> try exact hK.elim
 ·-- behind nothing
  rename_i hxe;rw[hxe] at hx;obtain⟨hroom,z0,hK⟩:=hK;have hr:=room 0 (show 0+ys.length<=137438953472 from hroom);have hxv:a.eval x=.slice none 0 0:=hx.unem;obtain⟨v',w',hrun,hown,hsp⟩:=a0R (P:=Tryz.prog) w 0 t o.type e i z (ty e).sz i.bytes hun hi hiz his rfl hzs hpos (.slice none 0 0) 0 [] (World.ownsRow_nil w 0 e _) A ys.length cap vs hsrc hr.1 hr.2 (Nat.zero_le _)
  rcases hsp with⟨b,hb,_⟩|⟨hbel,hblk⟩
  ·cases hb
  rw[Nat.zero_add,List.nil_append] at hown;have hkp:A1 I w w':=λb k hbk i _=>hbel.cell (p:=⟨b,i,none⟩) (h.lt b k hbk).1
  have hlt:∀b,v'.ownBlock=some b->b=w.heap.size/\b<w'.heap.size:=λb hb=>by
   refine⟨?_,(hown.lt b hb).2⟩
   rcases hblk with h1|h1
   ·rw[h1] at hb;cases hb
   ·rw[h1] at hb;exact(Option.some.inj hb).symm
  have h2:=h.grow hbel (I':=λb k=>I b k\/(z0=true/\v'.ownBlock=some b/\k<=ys.length * (ty e).sz)) (λ_ _ h=>.inl h) (λb k hk=>by
   rcases hk with hk|⟨_,hk,_⟩
   ·exact .inl hk
   ·obtain⟨h1,h2⟩:=hlt b hk;exact .inr ⟨by omega,h2⟩)
  have h3:=h2.newObj (.row z0 e ys) v' ⟨vs,by rw[n7];exact hown,hrl,hvs.mono (λ_ _ h=>.inl h) hkp,λb hb=>by
   rw[n7] at hb;refine⟨λhz=>.inr ⟨hz,hb,Nat.le_refl _⟩,λk hk=>?_,.inl ?_⟩
   ·rcases hk with hk|⟨hz,_,hk⟩
    ·have:=(h.lt _ _ hk).1;have:=(hlt b hb).1;omega
    ·exact⟨hz,hk⟩
   ·have:=(hlt b hb).1;have:=h.fr.size;omega⟩ (λj b hj hb hb'=>by
   have hb':=(a0w hown).1 hb';have h1:=(hlt b hb').1;have h2:=h.blk_lt hj hb
   omega)
  unfold Oper.wp;rw[hexec v' w' (by rw[hxv];exact hrun),Oper.upon_value];obtain⟨A',c',hv'⟩:=L9 hown;refine⟨_,⟨_,_,(RelI.freshly h3).put (x:=.own (o7 s.o)) ?_ _⟩,hK⟩;rw[hv'];exact .own _ _ _ _ (by rw[r6,n7];rfl)
 ·-- behind a row
  rename_i k hxk;rw[hxk] at hx
  split at hK <;> try exact hK.elim
  rename_i z0 e' xs hok
  split at hK <;> try exact hK.elim
  rename_i hee;rw[B2] at hee;subst hee;obtain⟨hroom,hK⟩:=hK;have hr:=room xs.length (show xs.length+ys.length<=137438953472 from hroom);have hk:=A5 hok (by simp);obtain⟨us,hown,hxl,hxd,hxb⟩:=h.obj k _ hk;have hxv:a.eval x=g k:=hx.unown.1.trans (a1O hown);obtain⟨v',w',hrun,hown',hsp⟩:=a0R (P:=Tryz.prog) w 0 t o.type e' i z (ty e').sz i.bytes hun hi hiz his rfl hzs hpos (g k) xs.length us hown A ys.length cap vs hsrc hr.1 hr.2 (Nat.zero_le _);obtain⟨I',g',hg',h2⟩:=h.appended hk hown hrl hvs hown' hsp;unfold Oper.wp;rw[hexec v' w' (by rw[hxv];exact hrun),Oper.upon_value];obtain⟨A',c',hv'⟩:=L9 hown';rw[H5] at hK;refine⟨_,⟨_,_,h2.put (x:=.own k) ?_ _⟩,hK⟩;rw[hv'];exact .own _ _ _ _ (by rw[hg',hv'];rfl)
theorem a98 {α:Type} (n:Nat) (l:List α):(List.replicate n l).flatten.length=n * l.length:=by
 rw[List.length_flatten,List.map_replicate,List.sum_replicate_nat]
theorem b6F (h:RelI I0 X w0 I g s a w) {o:Oper} {Q:Exit->Act->World->Prop} {K:S->Prop} {x y:Operand} {t:Nat} (ho:o.op=.makeSlice t x y) (ht:j6 t=true) (hte:∀e,(ty t).elem=some e->j6 e=true)
  (hK:a1K j1 s o.dst K t (s.get x) (s.get y)):o.wp Tryz.prog a w (λa' w'=>∃s',Z3 I0 X w0 s' a' w'/\K s') Q:=by
 have hx:=h.get x;have hy:=h.get y;unfold a1K at hK
 split at hK <;> try exact hK.elim
 rename_i k n k' m e1 e2;rw[e1] at hx;rw[e2] at hy
 split at hK <;> try exact hK.elim
 rename_i hnm;have hnm:n=m:=by simpa [j1] using hnm
 subst hnm
 split at hK <;> try exact hK.elim
 rename_i e he
 split at hK <;> try exact hK.elim
 rename_i z hz;obtain⟨⟨h1,h2,h3⟩,z0,hK⟩:=hK;have hke:=hte e he;have hun:=H7 ht he;obtain⟨i,zv,hi,his,hiz,hzc,hzl,hby⟩:=a1m hke
 have hzat:=a3t (s:=⟨s.t,s.o⟩) h (K8 (I:=I) (w:=w) (g:=g) (ty e).zero) (by
  have key:∀ {l:List V} {ds:List D},a2U [] l=some ds->a2U s.o l=some ds:=by
   intro l
   induction l with
   | nil=>intro ds h;exact h
   | cons v l ih =>
    intro ds h;rw[a2U] at h ⊢
    split at h
    ·rename_i y hy
     split at h
     ·rename_i ys hys
      have:toD s.o v=some y:=by
       cases v with
       | own k=>simp[toD,y5] at hy
       | cl f ks=>cases ks <;> exact hy
       | _=>exact hy
      rw[this,ih hys];exact h
     ·cases h
    ·cases h
  exact key hz)
 have hzlen:z.length=(ty e).sz:=by rw[<-hzat.1,hzl]
 obtain⟨N,hN⟩:∃N,N=n.toNat:=⟨_,rfl⟩;rw[<-hN] at h3 hK
 have hrun:=run_makeSlice (P:=Tryz.prog) w t e i zv hun hi hiz k k' n n h1 (Int.le_refl _) (by rw[<-hN,his,<-hzlen];exact h3) (by
  have:(i.bytes:Int) * n<=1024 * 16777216:=Int.mul_le_mul (by omega) h2 h1 (by decide)
  omega) (by omega)
 rw[<-hN] at hrun
 have hcells:(madeCells zv.cells (N * i.size)).toList=(List.replicate N (ty e).zero).flatten:=by
  have:=a5R (ty e).zero.toArray N;have e3:(ty e).zero.toArray.size=(ty e).sz:=by simp[hzl]
  rw[hzc,his,<-e3];exact this
 obtain⟨us,hus⟩:∃us,us=(List.replicate N (ty e).zero).flatten:=⟨_,rfl⟩;have hmade:madeCells zv.cells (N * i.size)=us.toArray:=by apply Array.ext';rw[hcells,hus]
 rw[hmade] at hrun;have hul:us.length=N * (ty e).sz:=by rw[hus,a98,hzl]
 have hrl:(List.replicate N z).length=N:=List.length_replicate;have hr1:∀r∈List.replicate N z,r.length=(ty e).sz:=λr hr=>by rw[List.eq_of_mem_replicate hr,hzlen]
 have hat:A8 I w us (List.replicate N z).flatten:=by
  refine⟨by rw[hul,a98,hzlen],λj u d hu hd=>?_⟩;have hj:j<N * (ty e).sz:=by rw[<-hul];exact(List.getElem?_eq_some_iff.1 hu).1
  have hpos:0<(ty e).sz:=by
   rcases Nat.eq_zero_or_pos (ty e).sz with h0|h0
   ·rw[h0,Nat.mul_zero] at hj;omega
   ·exact h0
  have hq:j / (ty e).sz<N:=(Nat.div_lt_iff_lt_mul hpos).2 hj;have hr:j % (ty e).sz<(ty e).sz:=Nat.mod_lt _ hpos;have ej:j / (ty e).sz * (ty e).sz+j % (ty e).sz=j:=by rw[Nat.mul_comm];exact Nat.div_add_mod j _
  rw[hus,<-ej,Z2 (λr hr=>by rw[List.eq_of_mem_replicate hr,hzl]) (List.getElem?_replicate_of_lt hq) hr] at hu;rw[<-ej,Z2 hr1 (List.getElem?_replicate_of_lt hq) hr] at hd;exact hzat.2 _ u d hu hd
 have hb:Below w.heap.size w (w.alloc (.cells us.toArray e)):=(Below.refl _ _).alloc (Nat.le_refl _) _;have hk:A1 I w (w.alloc (.cells us.toArray e)):=λb k hbk i _=>hb.cell (p:=⟨b,i,none⟩) (h.lt b k hbk).1
 have h4:=h.grow hb (I':=λb k=>I b k\/(z0=true/\b=w.heap.size/\k<=N * (ty e).sz)) (λ_ _ h=>.inl h) (λb k hk=>by
  rcases hk with hk|⟨_,hk,_⟩
  ·exact .inl hk
  ·exact .inr ⟨by omega,by simp[hk]⟩)
 have h5:=h4.newObj (.row z0 e (List.replicate N z)) (.slice (some ⟨w.heap.size,0,none⟩) N N) ⟨us,by
   rw[n7,hrl];refine⟨hul,.inr ⟨w.heap.size,N,us.toArray,rfl,Nat.zero_le _,heap_alloc_new w _,Nat.le_refl _,?_,by simp[hul],by simp[<-hul]⟩⟩;unfold maxLen
   omega,hr1,hat.mono (λ_ _ h=>.inl h) hk,λb hb=>by
   rw[n7] at hb;have hb:=Option.some.inj hb;subst hb;refine⟨λhz=>.inr ⟨hz,rfl,by rw[hrl];exact Nat.le_refl _⟩,λk hk=>?_,.inl h.fr.size⟩
   rcases hk with hk|⟨hz,_,hk⟩
   ·exact absurd (h.lt _ _ hk).1 (Nat.lt_irrefl _)
   ·exact⟨hz,by rw[hrl];exact hk⟩⟩ (λj b hj hb hb'=>by
   have hb':w.heap.size=b:=hb';have h4:=h.blk_lt hj hb
   omega)
 unfold Oper.wp
 have hex:(execOp a.eval o).run Tryz.prog w=.ok (.value (.slice (some ⟨w.heap.size,0,none⟩) N N)) (w.alloc (.cells us.toArray e)):=by
  unfold execOp;rw[ho];simp only[hx.sc,hy.sc,Sem.run_bind,hrun,Result.andThen_ok,Sem.run_pure]
 rw[hex,Oper.upon_value];exact⟨_,⟨_,_,h5.put (x:=.own (o7 s.o)) (.own _ _ _ _ (by rw[r6,n7];rfl)) _⟩,hK⟩
set_option maxRecDepth 20000 in
theorem a83 {m:Bool} (h:RelI I0 X w0 I g s a w) {o:Oper} {Q:Exit->Act->World->Prop} {K:S->Prop} (hop:Z8 Tryz.prog o.op=true) (hK:B6 j1 m s o.dst K o.op):o.wp Tryz.prog a w (λa' w'=>∃s',Z3 I0 X w0 s' a' w'/\K s') Q:=by
 obtain⟨dst,op,type,pos,after,gd⟩:=o;simp only at hop hK;unfold B6 at hK
 split at hK
 ·rename_i e
  split at hK <;> try exact hK.elim
  rename_i h1;have ht:j6 e=true:=hop;obtain⟨z,hz,hzc⟩:=a5j ht w;unfold a4g at hK
  split at hK
  ·refine b4G h (t:=e) (us:=(ty e).zero) ?_ hK;simp only[execOp,Instr.alloc,Sem.run_bind,hz,Result.andThen_ok,newVar,newRow,hzc,newObj,Sem.run,Sem.run_pure];rfl
  ·refine b4F h (t:=e) (K8 (ty e).zero) (a4O I w g h1) ?_ hK;simp only[execOp,Instr.alloc,Sem.run_bind,hz,Result.andThen_ok,newVar,newRow,hzc,newObj,Sem.run,Sem.run_pure];rfl
 ·rename_i e x
  split at hK <;> try exact hK.elim
  rename_i cs hcs;obtain⟨us,hu1,hu2,hu3⟩:=a30 (h.get x) hcs;refine b4F h (t:=e) hu2 hu3 ?_ hK;simp only[execOp,Instr.box,Sem.run_bind,newVar,newRow,hu1,newObj,Sem.run,Sem.run_pure,Result.andThen_ok];rfl
 ·rename_i t x y
  split at hK <;> try exact hK.elim
  have ht:j6 t=true:=hop;unfold F7 at hK
  split at hK <;> try exact hK.elim
  rotate_left
  ·rename_i k i sz off hx
   split at hK <;> try exact hK.elim
   rename_i e rows hok
   split at hK <;> try exact hK.elim
   rename_i hsz;rw[B2] at hsz
   split at hK <;> try exact hK.elim
   rename_i row hrow
   split at hK <;> try exact hK.elim
   rename_i l hl
   split at hK <;> try exact hK.elim
   rename_i ds hds
   split at hK <;> try exact hK.elim
   rename_i hlen
   split at hK <;> try exact hK.elim
   rename_i row' hrow';obtain⟨vs,hv1,hv2,hv3⟩:=a30 (h.get y) hl;have hvd:=a3t h hv2 hds;have hk:=A5 hok (by simp);obtain⟨b,n,cap,cur,hg,hb,hle,h2⟩:=h.setEl hk (b0P hrow).2 hvd hrow'
   have hxv:a.eval x=.pointer (some ⟨b,i.toNat * (ty e).sz+off,none⟩):=by
    have h3:=h.get x;rw[hx] at h3;generalize a.eval x=ax at h3 ⊢;cases h3 with
    | el k i sz off b' n' cap' hg' =>
     rw[hg] at hg';injection hg' with hg'
     injection hg' with hg'
     injection hg' with hg'
     subst hg';rw[hsz]
   rw[B2,J2] at hlen;have hst:=run_storeCells_at Tryz.prog b (i.toNat * (ty e).sz+off) e vs 0 cur w hb (by simpa using hle) hv3;simp only[Nat.add_zero] at hst;have hsize:=L3 ht w;have hcz:(a.eval y).cells.size=(ty t).sz:=by rw[hv1];simp[hvd.1,hlen]
   rw[H5] at hK;unfold Oper.wp
   have hrun:(execOp a.eval { dst:=none,op:=Op.store t x y,type:=type,pos:=pos,after:=after,guard:=gd }).run Tryz.prog w=.ok .skip (w.setRow b (cur.toList.take (i.toNat * (ty e).sz+off)++vs++cur.toList.drop (i.toNat * (ty e).sz+off+vs.length)).toArray):=by
    simp only[execOp,Instr.storeAt,Instr.sureAddr,hxv,storeVar,Sem.run_bind,Sem.run_pure,Result.andThen_ok,hsize,hcz]
    simp[hv1,hst]
   rw[hrun,Oper.upon_skip];exact⟨_,⟨I,g,h2⟩,hK⟩
  rename_i k off hx
  split at hK <;> try exact hK.elim
  rename_i cs hok
  split at hK <;> try exact hK.elim
  rename_i l hl
  split at hK <;> try exact hK.elim
  rename_i hsz
  split at hK <;> try exact hK.elim
  rename_i cs' hcs';obtain⟨vs,hv1,hv2,hv3⟩:=a30 (h.get y) hl;have hk:=A5 hok (by simp);obtain⟨b,us,t',hg,hb,hle,h2⟩:=h.store hk hv2 hv3 hcs'
  have hxv:a.eval x=.pointer (some ⟨b,off,none⟩):=by
   have h3:=h.get x;rw[hx] at h3;obtain⟨b',hg',h4⟩:=h3.unptr;rw[hg] at hg';injection hg' with hg'
   injection hg' with hg'
   injection hg' with hg'
   subst hg';exact h4
  rw[B2,J2] at hsz;have hst:=run_storeCells_at Tryz.prog b off t' vs 0 us.toArray w hb (by simpa using hle) hv3;simp only[Nat.add_zero] at hst;have hsize:=L3 ht w;have hcz:(a.eval y).cells.size=(ty t).sz:=by rw[hv1];simp[hv2.1,hsz]
  rw[H5] at hK;unfold Oper.wp
  have hrun:(execOp a.eval { dst:=none,op:=Op.store t x y,type:=type,pos:=pos,after:=after,guard:=gd }).run Tryz.prog w=.ok .skip (w.setRow b (us.take off++vs++us.drop (off+vs.length)).toArray):=by
   simp only[execOp,Instr.storeAt,Instr.sureAddr,hxv,storeVar,Sem.run_bind,Sem.run_pure,Result.andThen_ok,hsize,hcz]
   simp[hv1,hst]
  rw[hrun,Oper.upon_skip];exact⟨_,⟨I,g,h2⟩,hK⟩
 ·rename_i t x y;simp only[Z8,Bool.and_eq_true] at hop;exact b6F h rfl hop.1 (a1r hop.2) hK
 ·rename_i t
  split at hK <;> try exact hK.elim
  rename_i hkd
  split at hK <;> try exact hK.elim
  rename_i kt hkt;obtain⟨g',hg,h2⟩:=c0l h (kt:=kt);rw[<-r6] at hg;unfold Oper.wp
  have hrun:(execOp a.eval { dst:=dst,op:=Op.makeMap t none,type:=type,pos:=pos,after:=after,guard:=gd }).run Tryz.prog w=.ok (.value (.map (some w.heap.size))) (w.alloc (.map #[] 0)):=by
   simp only[execOp,Option.map_none,Instr.makeMap,newObj,Sem.run_bind,Sem.run_pure,Result.andThen_ok,Sem.run];rfl
  rw[hrun,Oper.upon_value];exact⟨_,⟨I,g',h2.put (.mp _ _ hg) _⟩,hK⟩
 ·rename_i t x i v
  split at hK <;> try exact hK.elim
  simp only[Z8,Bool.and_eq_true] at hop;obtain⟨w',s',hrun,h',hK⟩:=b8F h hop.1 hop.2 (h.get x) (h.get i) (h.get v) hK;unfold Oper.wp
  have hrun':(execOp a.eval { dst:=none,op:=Op.mapUpdate t x i v,type:=type,pos:=pos,after:=after,guard:=gd }).run Tryz.prog w=.ok .skip w':=by
   simp only[execOp,Sem.run_bind,hrun,Result.andThen_ok,Sem.run_pure]
  rw[hrun',Oper.upon_skip];exact⟨_,⟨I,g,h'⟩,hK⟩
 ·rename_i t
  split at hK <;> try exact hK.elim
  rename_i e he;obtain⟨z0,hK⟩:=hK;simp only[Z8,Bool.and_eq_true] at hop;have ht:=hop.1.1
  have hke:j6 e=true:=by
   have h2:=hop.2;rw[he] at h2;simp only[Bool.and_eq_true] at h2;exact h2.1
  have hun:=H7 ht he;have hsize:=L3 hke w
  have hrun:(execOp a.eval { dst:=dst,op:=Op.buildSlice t 0 ⟨[]⟩,type:=type,pos:=pos,after:=after,guard:=gd }).run Tryz.prog w=.ok (.value (.slice (some ⟨w.heap.size,0,none⟩) 0 0)) (w.alloc (.cells #[] e)):=by
   simp only[execOp,Instr.buildSlice,Sem.run_bind,run_underlying hun,Result.andThen_ok,hsize,Nat.zero_mul,Sem.run_ite,Sem.run_pure];rw[if_neg (show ¬(0>2 ^ 24) by decide),if_pos True.intro];rw[show (Array.range 0).map (λx=>(#[]:Array Value)[x % (#[]:Array Value).size]!)=#[] from by simp];simp only[Array.map_empty,Instr.fill];rfl
  have hb:Below w.heap.size w (w.alloc (.cells #[] e)):=(Below.refl _ _).alloc (Nat.le_refl _) _
  have h2:=h.grow hb (I':=λb k=>I b k\/(z0=true/\b=w.heap.size/\k=0)) (λ_ _ h=>.inl h) (λb k hk=>by
   rcases hk with hk|⟨_,hk,_⟩
   ·exact .inl hk
   ·exact .inr ⟨by omega,by simp[hk]⟩)
  have h3:=h2.newObj (.row z0 e []) (.slice (some ⟨w.heap.size,0,none⟩) 0 0) ⟨[],by rw[n7];exact World.ownsRow_made w #[] 0 (Nat.zero_le _) (Nat.zero_le _) (by simp),by simp,.nil _ _,λb hb=>by
   rw[n7] at hb;have hb:=Option.some.inj hb;subst hb;refine⟨λhz=>.inr ⟨hz,rfl,by simp⟩,λk hk=>?_,.inl h.fr.size⟩
   rcases hk with hk|⟨hz,_,hk⟩
   ·exact absurd (h.lt _ _ hk).1 (Nat.lt_irrefl _)
   ·exact⟨hz,by rw[hk];exact Nat.zero_le _⟩⟩ (λj b hj hb hb'=>by
   have hb':w.heap.size=b:=hb';have h4:=h.blk_lt hj hb
   omega)
  unfold Oper.wp;rw[hrun,Oper.upon_value];exact⟨_,⟨_,_,(RelI.freshly h3).put (x:=.own (o7 s.o)) (.own _ _ _ _ (by rw[r6,n7];rfl)) _⟩,hK⟩
 ·rename_i x y t u;simp only[Z8,Bool.and_eq_true] at hop;obtain⟨⟨⟨h1,h2⟩,h3⟩,h4⟩:=hop;rw[B2] at h3;subst h3;refine b3q h rfl h1 (λe he=>?_) hK;rw[he] at h4;simp only[Nat.blt_eq] at h4;exact⟨a1r h2 e he,h4⟩
 ·rename_i t n ps
  split at hK
  ·obtain⟨c,hK⟩:=hK;cases c with
   | true=>exact a35 h hop hK
   | false=>exact b8G h rfl hop hK
  ·exact a35 h hop hK
 ·rename_i f args ts
  split at hK
  ·exact a5W h (λhf=>a0l (cs:=[]) rfl rfl hf) (by rw[List.append_nil];exact h.gets args.toList) hK
  ·exact a35 h hop hK
 ·rename_i i args ts
  split at hK
  ·split at hK <;> try exact hK.elim
   rename_i f ks hf;obtain⟨cs,hc1,hc2⟩:=b4D h hf;exact a5W h (λhf=>a0l (cs:=cs) rfl hc1 hf) (by rw[a08];exact(h.gets args.toList).append hc2) hK
  ·exact a35 h hop hK
 ·exact a35 h hop hK
end
end
section
def inD:List (Option Nat)->Nat->Bool
 | [],_=>false
 | some x::l,i=>match K7 x i with|true=>true|false=>inD l i
 | none::l,i=>inD l i
def a84:Oper->Option Nat
 | ⟨_,.load _ (.tmp i),_,_,_,none⟩=>some i
 | _=>none
def a5X (dsts:List (Option Nat)):Oper->Option Nat
 | ⟨none,.store _ (.tmp i) _,_,_,_,none⟩=>match inD dsts i with|true=>none|false=>some i
 | _=>none
def a5m (f:Oper->Option Nat):List Oper->List Nat
 | []=>[]
 | o::l=>match f o with|some i=>i::a5m f l|none=>a5m f l
def M4:Op->Option Nat
 | .move (.tmp j)=>some j
 | .nilCheck (.tmp j)=>some j
 | .fieldAddr _ (.tmp j) _=>some j
 | .indexAddr _ (.tmp j) _=>some j
 | _=>none
def b4H:List Oper->Nat->Option Nat
 | [],_=>none
 | o::l,i=>match o.dst with
  | some d=>match K7 d i with|true=>M4 o.op|false=>b4H l i
  | none=>b4H l i
def b4I (dsts:List (Option Nat)) (ops:List Oper) (k:Nat):Nat->Nat->Option (List (Nat×Nat))
 | 0,_=>none
 | f+1,i=>match inD dsts i with
  | false=>match K7 i k with|true=>none|false=>some [(i,k)]
  | true=>match b4H ops i with
   | some j=>match b4I dsts ops k f j with|some l=>some ((i,k)::l)|none=>none
   | none=>none
def b0T (dsts:List (Option Nat)) (ops:List Oper) (i:Nat):List Nat->List (Nat×Nat)
 | []=>[]
 | k::ks=>match b4I dsts ops k 8 i with
  | some l=>l++b0T dsts ops i ks
  | none=>b0T dsts ops i ks
def b4J (dsts:List (Option Nat)) (ops:List Oper) (ks:List Nat):List Nat->List (Nat×Nat)
 | []=>[]
 | i::l=>b0T dsts ops i ks++b4J dsts ops ks l
def M5 (ops:List Oper):List (Nat×Nat):=match a5m (a5X (n5 ops)) ops with
 | []=>[]
 | k::ks=>b4J (n5 ops) ops (k::ks) (a5m a84 ops)
def b2m (prs:List (Nat×Nat)) (o:Oper):Bool:=match o.dst with
 | none=>true
 | some d=>prs.all λp=>a1h (K7 d p.2) && (a1h (K7 d p.1) || match M4 o.op with|some j=>prs.contains (j,p.2)|none=>false)
def F8:V->V->Bool
 | .ptr j _,.ptr m _=>a1h (K7 j m)
 | .el j _ _ _,.el m _ _ _=>a1h (K7 j m)
 | .own j,.el m _ _ _=>a1h (K7 j m)
 | .bs j _,.ptr m _=>a1h (K7 j m)
 | _,_=>true
def a7y:List (Nat×Nat)->List V->Bool
 | [],_=>true
 | (i,k)::l,t=>match F8 (o6 t i) (o6 t k) with|true=>a7y l t|false=>false
def a1s (o:Oper):List Nat:=(o.after.toList.filter λe=>Region.binds .any e).map (·.on)
def G6:List Oper->List (List Nat)->List (List Nat)
 | [],acc=>acc
 | o::l,acc=>G6 l (acc++[(a1s o).flatMap λj=>j::acc.getD j []])
def a4P (ops:List Oper) (i:Nat):Bool :=
 let an:=G6 ops []
 (List.range ops.length).all λj=>Nat.beq j i || (Nat.blt j i && (an.getD i []).contains j) || (Nat.blt i j && (an.getD j []).contains i)
def emL:List V->Bool
 | []=>false
 | .em::_=>true
 | _::l=>emL l
def emA:List V->Bool
 | []=>false
 | .em::_=>true
 | .ag cs::l=>match emL cs with|true=>true|false=>emA l
 | _::l=>emA l
def emB (b:Bool) (vs:List V):Bool:=match b with|true=>emA vs|false=>false
def a16 (b:Bool) (s:S) (x:Operand) (args:List Operand):Option (Nat×List V):=match fnV (s.get x) with
 | some (f,ks)=>match emB b (G3 s.get args) with
  | true=>some (f,a2B (G3 s.get args) (a54 ks))
  | false=>match a7b s.o (a2B (G3 s.get args) (a54 ks)) with
   | some _=>none
   | none=>some (f,a2B (G3 s.get args) (a54 ks))
 | none=>none
def a2Y:Op->Bool
 | .move _=>true
 | .assign _=>true
 | .pick _ _ _=>true
 | .fieldAddr _ _ _=>true
 | .field _ _ _=>true
 | .index _ _ _=>true
 | .binOp _ _ _ _ _=>true
 | .unOp _ _ _=>true
 | .convert _ _ _=>true
 | .build _ _=>true
 | .extract _ _=>true
 | .makeFunc _ _ _=>true
 | .nilCheck _=>true
 | _=>false
def tmps:List Operand->List Nat
 | []=>[]
 | .tmp t::l=>t::tmps l
 | _::l=>tmps l
def looks (dsts:List (Option Nat)) (o:Oper):List Nat:=(match o.guard with
 | some (j,_)=>match getD dsts j with|some d=>[d]|none=>[]
 | none=>[])++tmps o.op.operands.toList
def I5 (d:Option Nat) (l:List Nat):Bool:=match d with|some x=>!l.contains x|none=>true
def a0y (dsts:List (Option Nat)):Oper->Option (List Nat)
 | ⟨_,.load _ (.tmp k),_,_,_,none⟩=>match inD dsts k with|true=>none|false=>some [k]
 | o=>match a2Y o.op with|true=>some []|false=>none
def a5n:Op->Bool
 | .call ⟨.value _,_,_⟩=>true
 | _=>false
def P3 (dsts:List (Option Nat)) (an:List (List Nat)) (i:Nat) (oi:Oper):Nat->List Oper->Option (List Nat)
 | _,[]=>some []
 | j,o::l=>match Nat.beq j i with
  | true=>P3 dsts an i oi (j+1) l
  | false=>match Nat.blt j i with
   | true=>match (an.getD i []).contains j with
    | true=>P3 dsts an i oi (j+1) l
    | false=>match I5 o.dst (looks dsts oi) && I5 oi.dst (looks dsts o) && (o.dst.isNone || o.dst != oi.dst) with
     | true=>match a0y dsts o with
      | some ks=>match P3 dsts an i oi (j+1) l with|some ms=>some (ks++ms)|none=>none
      | none=>none
     | false=>none
   | false=>match (an.getD j []).contains i with
    | true=>P3 dsts an i oi (j+1) l
    | false=>none
def a1t (all:List Oper) (i:Nat):Option (List Nat):=match H6 1 (K9 i all) with
 | some [oi]=>match a5n oi.op && oi.guard.isNone with
  | true=>P3 (n5 all) (G6 all []) i oi 0 all
  | false=>none
 | _=>none
def a4Q (all:List Oper) (i:Nat):Bool:=match a4P all i with
 | true=>true
 | false=>match a1t all i with|some _=>true|none=>false
def I6 (a:Ar) (all:List Oper) (i:Nat) (s:S) (dst:Option Nat) (K:S->Prop):Op->Prop
 | .call ⟨.value x,args,ts⟩=>match a16 (a4Q all i) s x args.toList with
  | some (f,vs)=>match a4P all i with
   | true=>a.callo f vs s (λv s'=>K (s'.put dst v))
   | false=>match a1t all i with
    | some l=>a.callx f vs l s (λv s'=>K (s'.put dst v))
    | none=>B6 a false s dst K (.call ⟨.value x,args,ts⟩)
  | none=>B6 a false s dst K (.call ⟨.value x,args,ts⟩)
 | op=>B6 a false s dst K op
def N7 (a:Ar) (dsts:List (Option Nat)) (all:List Oper) (i:Nat):Oper->S->(S->Prop)->Prop
 | ⟨dst,op,_,_,_,none⟩,s,K=>I6 a all i s dst K op
 | ⟨dst,op,_,_,_,some (j,b)⟩,s,K=>guard s dsts j fun
  | some c=>match bEq c b with
   | true=>I6 a all i s dst K op
   | false=>K (s.put dst T1)
  | none=>K (s.put dst T1)
def b0U (a:Ar) (dsts:List (Option Nat)) (all:List Oper):Nat->List Oper->S->(S->Prop)->Prop
 | _,[],s,K=>K s
 | i,o::l,s,K=>N7 a dsts all i o s (λs=>b0U a dsts all (i+1) l s K)
def b8g:Op->Bool
 | .alloc _=>true
 | .buildSlice _ (_+1) _=>true
 | _=>false
def a85:Bool->List Oper->Bool
 | _,[]=>false
 | c,o::l=>match b8g o.op with
  | true=>match c with|true=>true|false=>a85 c l
  | false=>match c with|true=>a85 true l|false=>a85 (a5n o.op) l
def a5Y (an:List (List Nat)) (al:Oper->Bool) (cl:Oper->Bool) (ops:List Oper):Bool :=
 (List.range ops.length).any λj=>match ops[j]? with
  | some oj=>al oj && (List.range j).any λi=>match ops[i]? with
   | some oi=>cl oi && !((an.getD j []).contains i)
   | none=>false
  | none=>false
def b8H (dsts:List (Option Nat)):Oper->Bool
 | ⟨_,.store _ (.tmp k) _,_,_,_,none⟩=>inD dsts k
 | _=>false
def b4K:Oper->Bool
 | ⟨_,.load _ _,_,_,_,none⟩=>true
 | _=>false
def b8I (f:Oper->Bool):List Oper->Bool
 | []=>false
 | o::l=>match f o with|true=>true|false=>b8I f l
def b8h (ops:List Oper):Bool:=match b8I (b8H (n5 ops)) ops with
 | false=>false
 | true=>match b8I b4K ops with
  | false=>false
  | true=>match a5Y (G6 ops []) (b8H (n5 ops)) b4K ops with
   | true=>true
   | false=>a5Y (G6 ops []) b4K (b8H (n5 ops)) ops
def b4L (ops:List Oper):Bool:=match a85 false ops with
 | false=>b8h ops
 | true=>match a5Y (G6 ops []) (λo=>b8g o.op) (λo=>a5n o.op) ops with
  | true=>true
  | false=>b8h ops
def B7 (a:Ar):Code->S->(X->S->Prop)->Prop
 | .skip,s,K=>K .normal s
 | .region _ ops d,s,K=>match d with
  | false=>a0s a (n5 ops.toList) ops.toList s (λs=>K .normal s)
  | true=>match orB (b4n s.o) (b4L ops.toList) with
   | true=>a.reg ops s (λs=>K .normal s)
   | false=>match a7y (M5 ops.toList) s.t with
    | true=>b0U a (n5 ops.toList) ops.toList 0 ops.toList s (λs=>K .normal s)
    | false=>False
 | .seq c d,s,K=>B7 a c s (λx s=>b8b (λs=>a.next (λs=>B7 a d s K) s) K x s)
 | .cond c d e,s,K=>match s.get c with
  | .d (.sc (.bool b))=>match b with
   | true=>B7 a d s K
   | false=>B7 a e s K
  | _=>False
 | .block id c,s,K=>B7 a c s (λx s=>b4p id K x s)
 | .exit i,s,K=>K (.exit i) s
 | .ret,s,K=>K .ret s
 | .loop c,s,K=>a.loop c (λs K=>B7 a c s K) s K
 | _,_,_=>False
def b2n (P:Program) (ops:List Oper):Bool:=ops.all λo=>Z8 P o.op
section
variable {I0:Nat->Nat->Prop} {X:Nat->Prop} {w0:W0} {I:Nat->Nat->Prop} {g:Nat->Value} {s:S} {a:Act} {w:World}
def a4u (n:Nat) (g:Nat->Value):Nat->Value:=λk=>if k<n then g k else .nilFunc
theorem Y6 {g':Nat->Value} {n:Nat} (hg:∀k,k<n->g' k=g k) {v:Value} {x:V} (h:AtV I w g v x) (hl:a1B n x=true):AtV I w g' v x:=by
 cases h with
 | d h=>exact .d h
 | ag us cs h1 h2=>cases hl
 | tu us cs h1 h2=>cases hl
 | em=>exact .em
 | own k A m cap h=>exact .own k A m cap ((congrArg gv (hg k (by simpa [a1B,Nat.blt_eq] using hl))).trans h)
 | ptr k off b h=>exact .ptr k off b ((hg k (by simpa [a1B,Nat.blt_eq] using hl)).trans h)
 | cl f us ks hu h =>
  rw[a1B] at hl
  exact .cl f us ks hu λi u k hi hk=>by
   obtain⟨h1,b,h2⟩:=h i u k hi hk;have h3:=hg k (a8v hl hk);exact⟨h1.trans h3.symm,b,h3.trans h2⟩
 | el k i sz off b m cap h=>exact .el k i sz off b m cap ((hg k (by simpa [a1B,Nat.blt_eq] using hl)).trans h)
 | ro b o off us cs h1 h2 h3=>exact .ro b o off us cs h1 h2 h3
 | mp k b h=>exact .mp k b ((hg k (by simpa [a1B,Nat.blt_eq] using hl)).trans h)
 | bs k n' b cap h hn=>exact .bs k n' b cap ((hg k (by simpa [a1B,Nat.blt_eq] using hl)).trans h) hn
 | jk v=>exact .jk v
theorem a5o {g':Nat->Value} {n:Nat} (hg:∀k,k<n->g' k=g k):∀ {cs:List V} {us:List Value},n6 I w g us cs->a5A n cs=true->n6 I w g' us cs
 | [],us,h,_=>by rw[h.unnil];exact .nil I w g'
 | c::cs,us,h,hl=>by
  obtain⟨u,us',rfl,h1,h2⟩:=h.uncons;rw[a5A] at hl
  split at hl
  ·rename_i hc;exact .cons (Y6 hg h1 hc) (a5o hg h2 hl)
  ·cases hl
theorem b2o {g':Nat->Value} {n:Nat} (hg:∀k,k<n->g' k=g k) {v:Value} {x:V} (h:AtV I w g v x) (hl:b86 n x=true):AtV I w g' v x:=by
 cases x with
 | ag cs=>obtain⟨us,rfl,h2⟩:=h.unag;exact a0F (a5o hg h2 hl)
 | tu cs =>
  cases cs with
  | nil =>
   obtain⟨us,rfl,h2⟩:=h.untu;rw[h2.unnil];exact a0G (.nil I w g')
  | cons c cs=>cases hl
 | d x=>exact Y6 hg h hl
 | em=>exact Y6 hg h hl
 | own k=>exact Y6 hg h hl
 | ptr k off=>exact Y6 hg h hl
 | cl f ks=>exact Y6 hg h hl
 | el k i sz off=>exact Y6 hg h hl
 | ro cs off=>exact Y6 hg h hl
 | mp k=>exact Y6 hg h hl
 | bs k n'=>exact Y6 hg h hl
 | jk=>exact .jk _
theorem a86 {g':Nat->Value} {n:Nat} (hg:∀k,k<n->g' k=g k):∀ {cs:List V} {us:List Value},n6 I w g us cs->a8u n cs=true->n6 I w g' us cs
 | [],us,h,_=>by rw[h.unnil];exact .nil I w g'
 | c::cs,us,h,hl=>by
  obtain⟨u,us',rfl,h1,h2⟩:=h.uncons;rw[a8u] at hl
  split at hl
  ·rename_i hc;exact .cons (b2o hg h1 hc) (a86 hg h2 hl)
  ·cases hl
theorem a36:∀ {l m:List V} {us:List Value},n6 I w g us l->a4M l m->n6 I w g us m
 | [],[],us,h,_=>h
 | [],_::_,us,h,hw=>by cases hw
 | x::l,[],us,h,hw=>by cases hw
 | x::l,y::m,us,h,hw=>by
  obtain⟨u,us',rfl,h1,h2⟩:=h.uncons
  by_cases hy:y=.jk
  ·subst hy;exact .cons (.jk _) (a36 h2 hw)
  ·have hw':x=y/\a4M l m:=by
    cases y <;> first|exact absurd rfl hy|exact hw
   exact .cons (hw'.1 ▸ h1) (a36 h2 hw'.2)
theorem b2p:∀ {l m:List Nat},b3k l m=true->∀j∈l,j∈m
 | [],m,_,j,hj=>by simp at hj
 | k::l,m,h,j,hj=>by
  rw[b3k] at h
  split at h
  ·rename_i hk
   rcases List.mem_cons.1 hj with rfl|hj
   ·exact a2v.1 hk
   ·exact b2p h j hj
  ·cases h
theorem a7z:∀ {l m:List O},a2I l m->m.length<=l.length/\∀(k:Nat) (o':O),m[k]?=some o'->o'=O.dead\/(∃cs ds,l[k]?=some (.box cs)/\o'=.box ds/\a4M cs ds)\/(∃ks js,l[k]?=some (.kl ks)/\o'=.kl js/\b3k ks js=true)\/(l[k]?=some o'/\(∀cs,o'≠.box cs)/\∀ks,o'≠.kl ks)
 | l,[],_=>⟨Nat.zero_le _,λk o' h=>by simp at h⟩
 | [],y::m,h=>by cases y <;> cases h
 | x::l,y::m,h=>by
  have key:a2I l m/\(y=.dead\/(∃cs ds,x=.box cs/\y=.box ds/\a4M cs ds)\/(∃ks js,x=.kl ks/\y=.kl js/\b3k ks js=true)\/(x=y/\(∀cs,y≠.box cs)/\∀ks,y≠.kl ks)):=by
   cases y with
   | dead=>cases x <;> exact⟨h,.inl rfl⟩
   | box ds=>cases x <;> first|exact⟨h.2,.inr (.inl ⟨_,_,rfl,rfl,h.1⟩)⟩|cases h
   | kl js=>cases x <;> first|exact⟨h.2,.inr (.inr (.inl ⟨_,_,rfl,rfl,h.1⟩))⟩|cases h
   | row z e r =>
    cases x with
    | row z2 e2 r2 =>
     obtain⟨⟨rfl,rfl,rfl⟩,h2⟩:=h;exact⟨h2,.inr (.inr (.inr ⟨rfl,by simp,by simp⟩))⟩
    | _=>exact h.elim
   | mp kt es =>
    cases x with
    | mp kt2 es2 =>
     obtain⟨⟨rfl,rfl⟩,h2⟩:=h;exact⟨h2,.inr (.inr (.inr ⟨rfl,by simp,by simp⟩))⟩
    | _=>exact h.elim
   | it P =>
    cases x with
    | it P2 =>
     obtain⟨rfl,h2⟩:=h;exact⟨h2,.inr (.inr (.inr ⟨rfl,by simp,by simp⟩))⟩
    | _=>exact h.elim
   | ob T vs =>
    cases x with
    | ob T2 vs2 =>
     obtain⟨⟨rfl,rfl⟩,h2⟩:=h;exact⟨h2,.inr (.inr (.inr ⟨rfl,by simp,by simp⟩))⟩
    | _=>exact h.elim
  obtain⟨h1,h2⟩:=a7z key.1;refine⟨by simp;exact h1,λk o' hk=>?_⟩;cases k with
  | zero =>
   simp at hk
   subst hk
   rcases key.2 with h|⟨cs,ds,rfl,h4,h5⟩|⟨ks,js,rfl,h4,h5⟩|⟨rfl,h4⟩
   ·exact .inl h
   ·exact .inr (.inl ⟨cs,ds,rfl,h4,h5⟩)
   ·exact .inr (.inr (.inl ⟨ks,js,rfl,h4,h5⟩))
   ·exact .inr (.inr (.inr ⟨rfl,h4⟩))
  | succ k=>simpa using h2 k o' (by simpa using hk)
theorem RelI.weak (h:RelI I0 X w0 I g s a w) {s':S} (hn:w0.n<=s'.o.length) (hw:weak s s'):RelI I0 X w0 I (a4u s'.o.length g) s' a w:=by
 obtain⟨h1,h2,h3,h4⟩:=hw;obtain⟨hlen,hobj⟩:=a7z h2;rw[r6] at h3 h4;have hg:∀k,k<s'.o.length->a4u s'.o.length g k=g k:=λk hk=>if_pos hk
 refine⟨h.im,h.lt,h.fr,h.kp,hn,λk hk hr=>(hg k (by omega)).trans (h.st k hk hr),λk o ho=>?_,λj k b hj hk hbj hbk=>?_,λk hk=>if_neg (by omega),a86 hg (a36 h.tmp h1) h3,h.dfr⟩
 ·have hk:k<s'.o.length:=(List.getElem?_eq_some_iff.1 ho).1
  rcases hobj k o ho with rfl|⟨cs,ds,h5,rfl,h6⟩|⟨ks,js,h5,rfl,h6⟩|⟨h5,hnb,hnk⟩
  ·exact True.intro
  ·obtain⟨b,us,t,e1,e2,e3,e4⟩:=h.obj k _ h5;exact⟨b,us,t,(hg k hk).trans e1,e2,a5o hg (a36 e3 h6) (a3u h4 ho),e4⟩
  ·obtain⟨us,e1,e2,e3⟩:=h.obj k _ h5;refine⟨us,(hg k hk).trans e1,e2,λj u hu=>?_⟩;have hj:=(Array.getElem?_eq_some_iff.1 hu).1
   rcases e3 j u hu with e4|e4|e4
   ·exact .inl e4
   ·exact .inr (.inl ((hg j (by omega)).trans e4))
   ·exact .inr (.inr (b2p h6 j e4))
  ·cases o with
   | dead=>exact True.intro
   | box cs=>exact absurd rfl (hnb cs)
   | kl ks=>exact absurd rfl (hnk ks)
   | row z e r =>
    obtain⟨us,e1,e2,e3,e4⟩:=h.obj k _ h5;exact⟨us,by rw[hg k hk];exact e1,e2,e3,by rw[hg k hk];exact e4⟩
   | mp kt es =>
    obtain⟨b,l,c,e1,e2⟩:=h.obj k _ h5;exact⟨b,l,c,(hg k hk).trans e1,e2⟩
   | ob T vs =>
    obtain⟨b,e1,e2⟩:=h.obj k _ h5;exact⟨b,(hg k hk).trans e1,e2⟩
   | it P =>
    obtain⟨A,n,cap,F,e1,e2⟩:=h.obj k _ h5;exact⟨A,n,cap,F,(hg k hk).trans e1,e2⟩
 ·have live':∀j,J1 s' j->j<s'.o.length/\J1 s j:=λj ⟨o,ho,hd⟩=>by
   refine⟨(List.getElem?_eq_some_iff.1 ho).1,?_⟩
   rcases hobj j o ho with rfl|⟨cs,ds,h5,_,_⟩|⟨ks,js,h5,_,_⟩|⟨h5,_⟩
   ·exact absurd rfl hd
   ·exact⟨_,h5,by simp⟩
   ·exact⟨_,h5,by simp⟩
   ·exact⟨_,h5,hd⟩
  obtain⟨hj1,hj2⟩:=live' j hj;obtain⟨hk1,hk2⟩:=live' k hk;rw[hg j hj1] at hbj;rw[hg k hk1] at hbk;exact h.dis j k b hj2 hk2 hbj hbk
theorem Z3.weak (h:Z3 I0 X w0 s a w) {s':S} (hn:w0.n<=s'.o.length) (hw:s=s'\/weak s s'):Z3 I0 X w0 s' a w:=by
 obtain⟨I,g,h⟩:=h
 rcases hw with rfl|hw
 ·exact⟨I,g,h⟩
 ·exact⟨I,_,h.weak hn hw⟩
theorem a99:∀(l:List Oper) (j:Nat) (d:Nat),getD (n5 l) j=some d->(l[j]?).bind (·.dst)=some d
 | [],j,d,h=>by cases h
 | o::l,0,d,h=>by simpa [n5,getD] using h
 | o::l,j+1,d,h=>by rw[n5,getD] at h;simpa using a99 l j d h
theorem a5Z (h:Z3 I0 X w0 s a w) {ops:Array Oper} {j:Nat} {K:Option Bool->Prop} (hK:guard s (n5 ops.toList) j K):∃c,yielded ops a.tmps j=c/\K c:=by
 obtain⟨I,g,h⟩:=h;unfold guard at hK
 split at hK <;> try exact hK.elim
 rename_i d hd;have hdst:=a99 _ _ _ hd;rw[Array.getElem?_toList] at hdst
 have tmp:∀x,o6 s.t d=x->x≠.jk->∃v,a.tmps[d]?=some v/\AtV I w g v x:=λx hx hj=>by
  have h1:=U6 hx hj;have hlt:d<a.tmps.toList.length:=by rw[h.tmp.1];exact(List.getElem?_eq_some_iff.1 h1).1
  exact⟨a.tmps.toList[d],by rw[<-Array.getElem?_toList];exact List.getElem?_eq_getElem hlt,h.tmp.2 d _ _ (List.getElem?_eq_getElem hlt) h1⟩
 split at hK <;> try exact hK.elim
 ·rename_i c hc;obtain⟨v,h1,h2⟩:=tmp _ hc (by simp);obtain rfl:=h2.sc;exact⟨some c,by simp[yielded,hdst,h1],hK⟩
 ·rename_i hc;obtain⟨v,h1,h2⟩:=tmp _ hc (by simp);obtain⟨us,rfl,h3⟩:=h2.untu;rw[h3.unnil] at h1;exact⟨none,by simp[yielded,hdst,h1],hK⟩
theorem b6G {ro:Option Nat} {n:Nat} {P:Program} {f:FuncId} {args:Array Value} {w:World} {R:Ending->World->Prop} (h:Calls P f args w R):CallsIn (FW ro) n P f args w R:=callsIn_wide.2 h
theorem a71 {ro:Option Nat} {n:Nat} {P:Program} {o:Oper} {a:Act} {w:World} {next:Act->World->Prop} {Q:Exit->Act->World->Prop} (hd:∀c,o.op≠.defer c) (h:o.wp P a w next Q):o.wpIn (FW ro) n P a w next Q:=by
 refine⟨λ_ _=>trivial,?_⟩;rw[Oper.semAt_eq _ _ _ hd];unfold Oper.wp at h;generalize (execOp a.eval o).run P w=r at h ⊢;cases r with
 | ok x w' =>
  cases x with
  | enter f args=>exact⟨λh=>(by cases h),b6G h⟩
  | row f args=>exact⟨λh=>(by cases h),λc cs _=>let ⟨v,w2,h1,h2⟩:=h c cs;⟨v,w2,h1,stepsIn_wide.2 h2⟩⟩
  | value v=>exact h
  | skip=>exact h
  | defer d=>exact h
  | _=>exact h.elim
 | halt x w'=>cases x <;> exact h
theorem a0V {P:Program} {op:Op} (h:Z8 P op=true) (c:Call) (hc:op=.defer c):False:=by subst hc;cases h
theorem a9A (h:Z3 I0 X w0 s a w) {o:Oper} {Q:Exit->Act->World->Prop} {K:S->Prop} (hop:Z8 Tryz.prog o.op=true) (hK:a4J j1 s o.dst K o.op):o.wp Tryz.prog a w (λa' w'=>∃s',Z3 I0 X w0 s' a' w'/\K s') Q:=by
 unfold a4J at hK
 split at hK
 ·exact hK I0 X w0 a w o Q rfl rfl hop h
 ·obtain⟨I,g,h⟩:=h;exact a83 h hop hK
theorem b0V {ro:Option Nat} {n:Nat} {ops:Array Oper} {Q:Exit->Act->World->Prop} {K:S->Prop} (hQ:∀s' a' w',Z3 I0 X w0 s' a' w'->K s'->Q .normal a' w'):∀(l:List Oper) (s:S) (a:Act) (w:World),(∀o∈l,Z8 Tryz.prog o.op=true)->Z3 I0 X w0 s a w->a0s j1 (n5 ops.toList) l s K->wpListIn (FW ro) n Tryz.prog ops Q l a w
 | [],s,a,w,_,h,hK=>hQ _ _ _ h hK
 | ⟨dst,op,type,pos,after,gd⟩::l,s,a,w,hok,h,hK=>by
  have hop:=hok _ (List.mem_cons_self ..);have hrest:∀a' w',(∃s',Z3 I0 X w0 s' a' w'/\a0s j1 (n5 ops.toList) l s' K)->wpListIn (FW ro) n Tryz.prog ops Q l a' w':=λa' w' ⟨s',h1,h2⟩=>b0V hQ l s' a' w' (λo ho=>hok o (List.mem_cons_of_mem _ ho)) h1 h2
  have hstep:∀ {Kw:Act->World->Prop},(∀a w,wpListIn (FW ro) n Tryz.prog ops Q l a w->Kw a w)->a4J j1 s dst (λs=>a0s j1 (n5 ops.toList) l s K) op->Oper.wpIn (FW ro) n Tryz.prog ⟨dst,op,type,pos,after,gd⟩ a w Kw Q:=λhKw hs=>by
   obtain⟨I,g,h⟩:=h;exact a71 (λc hc=>a0V hop c hc) (Oper.wp_mono (λa' w' hx=>hKw _ _ (hrest a' w' hx)) (a9A ⟨I,g,h⟩ (o:=⟨dst,op,type,pos,after,gd⟩) (Q:=Q) hop hs))
  have hskip:a0s j1 (n5 ops.toList) l (s.put dst T1) K->wpListIn (FW ro) n Tryz.prog ops Q l (a.put dst undef) w:=λhs=>by
   obtain⟨I,g,h⟩:=h;exact b0V hQ l _ _ w (λo ho=>hok o (List.mem_cons_of_mem _ ho)) ⟨I,g,h.put (x:=T1) (.tu [] [] rfl (λi u c hu _=>by simp at hu)) dst⟩ hs
  refine wpListIn_step λKw hKw=>?_
  cases gd with
  | none =>
   rw[if_pos (by rfl)];rw[a0s] at hK;exact hstep hKw hK
  | some jb =>
   obtain⟨j,b⟩:=jb;rw[a0s] at hK;obtain⟨c,hc,hK⟩:=a5Z h hK;have hw:Region.wanted ⟨dst,op,type,pos,after,some (j,b)⟩ (yielded ops a.tmps)=(c == some b):=by simp[Region.wanted,hc]
   rw[hw];cases c with
   | none =>
    rw[if_neg (by simp)];exact⟨λ_ _=>trivial,hKw _ _ (hskip hK)⟩
   | some c =>
    simp only at hK
    split at hK
    ·rename_i hb;rw[a0I] at hb;rw[if_pos (by simpa using hb)];exact hstep hKw hK
    ·rename_i hb;rw[a0I] at hb;rw[if_neg (by simpa using hb)];exact⟨λ_ _=>trivial,hKw _ _ (hskip hK)⟩
end
end
end Go.Proofs.YtncijebklnbhlaaGreatDoor.Vm
end
