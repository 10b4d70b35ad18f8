/- Part 2 of the proof: VCall, VCalm, VKey, VCalm2, VCalm3, VMap, VStep, VCode. Conditions: none. -/
import Derived.Test.YtahpnackkmbmgaaGreatDoorR1
import Derived.OrdersIn
import Derived.Laws.Slices
import Derived.Laws.StructEq
import Derived.Maps.Keyed
import Derived.Lib.ConvBytes
import Derived.Laws.BytesString
import Derived.Deep.LoopGhost
import Derived.Sort.LoopGhostIn
import Derived.TacticsIn
import Derived.RangeFuncCalls
set_option linter.all false
set_option linter.unusedVariables false
set_option linter.unusedSimpArgs false
section
namespace Go.Proofs.YtahpnackkmbmgaaGreatDoor.Vm
open Go.RowKit
section
def Xof (g:Nat → Value) (os:List O) (b:Nat):Prop:=∃ k o,os[k]? = some o ∧ o ≠ .dead ∧ gbl (g k) b
def pkg:List Value → Value
 | [v]=>v
 | vs=>.tuple vs.toArray
def SpecO (f:Nat) (vs:List V) (os:List O) (Q:List V → List O → Prop):Prop:=fnOk Tryz.prog f = true ∧ ∀ (I:Nat → Nat → Prop) (w:World) (g:Nat → Value) (args:List Value),
 RelI I (Xof g os) ⟨w,g,os.length,[]⟩ I g ⟨vs,os⟩ { tmps:=args.toArray,defers:=[] } w →
 Calls Tryz.prog f args.toArray w fun e w'=>∃ us res os2 I' g',e = .returned (pkg us) ∧ Q res os2 ∧ RelI I (Xof g os) ⟨w,g,os.length,[]⟩ I' g' ⟨res,os2⟩ { tmps:=us.toArray,defers:=[] } w'
section
variable {I0:Nat → Nat → Prop} {X:Nat → Prop} {w0:W0} {I:Nat → Nat → Prop} {g:Nat → Value} {s:S} {a:Act} {w:World}
theorem upN_lt:∀ {ks:List Nat} {n j:Nat},j < ks.length → ks[j]? = some (upN ks n j)
 | [],n,j,h=>by simp at h
 | k :: ks,n,0,_=>rfl
 | k :: ks,n,j + 1,h=>by rw [upN];simpa using upN_lt (n:=n) (by simpa using h)
theorem upN_ge:∀ {ks:List Nat} {n j:Nat},ks.length ≤ j → upN ks n j = n + (j - ks.length)
 | [],n,j,h=>by rw [upN];simp
 | k :: ks,n,0,h=>by simp at h
 | k :: ks,n,j + 1,h=>by rw [upN,upN_ge (by simpa using h)];simp
theorem upK_get {ks:List Nat} {n:Nat}:∀ (l:List Nat) (i:Nat),(upK ks n l)[i]? = (l[i]?).map (upN ks n)
 | [],i=>by simp [upK]
 | j :: l,0=>by simp [upK]
 | j :: l,i + 1=>by simpa [upK] using upK_get l i
theorem upK_len {ks:List Nat} {n:Nat}:∀ l:List Nat,(upK ks n l).length = l.length
 | []=>rfl
 | j :: l=>by simp [upK,upK_len l]
theorem down1 {g1:Nat → Value} {ks:List Nat} {n m:Nat} (hg:∀ j,j < m → g1 j = g (upN ks n j)) {v:Value} {x:V} (h:AtV I w g v (up1 ks n x)) (hl:lowV m x = true):AtV I w g1 v x:=by
 cases x with
 | d x=>exact (by cases h with | d h=>exact .d h)
 | ag cs=>cases hl
 | tu cs=>cases hl
 | em=>cases h;exact .em
 | own j =>
  cases h with
  | own k A n cap h=>exact .own j A n cap ((congrArg gv (hg j (by simpa [lowV,Nat.blt_eq] using hl))).trans h)
 | ptr j off =>
  cases h with
  | ptr k off b h=>exact .ptr j off b ((hg j (by simpa [lowV,Nat.blt_eq] using hl)).trans h)
 | cl f l =>
  cases h with
  | cl f us ks' hlen h =>
   rw [lowV] at hl
   refine .cl f us l (by rw [hlen,upK_len]) fun i u k hu hk=>?_
   have h1:=h i u (upN ks n k) hu (by rw [upK_get,hk];rfl)
   have h2:=hg k (lowN_at hl hk)
   rw [h2]
   exact h1
 | el j i sz off =>
  cases h with
  | el k i sz off b n cap h=>exact .el j i sz off b n cap ((hg j (by simpa [lowV,Nat.blt_eq] using hl)).trans h)
 | ro cs off=>cases h with | ro b o off us cs hi hc hd=>exact .ro b o off us cs hi hc hd
 | mp j =>
  cases h with
  | mp k b h=>exact .mp j b ((hg j (by simpa [lowV,Nat.blt_eq] using hl)).trans h)
 | bs j m' =>
  cases h with
  | bs k n' b cap h hn=>exact .bs j m' b cap ((hg j (by simpa [lowV,Nat.blt_eq] using hl)).trans h) hn
 | jk=>exact .jk _
theorem downL {g1:Nat → Value} {ks:List Nat} {n m:Nat} (hg:∀ j,j < m → g1 j = g (upN ks n j)):∀ {cs:List V} {us:List Value},AtVs I w g us (upL ks n cs) → lowL m cs = true → AtVs I w g1 us cs
 | [],us,h,_=>by rw [upL] at h;rw [h.unnil];exact .nil I w g1
 | c :: cs,us,h,hl=>by
  rw [upL] at h
  obtain ⟨u,us',rfl,h1,h2⟩:=h.uncons
  rw [lowL] at hl
  split at hl
  ·rename_i hc;exact .cons (down1 hg h1 hc) (downL hg h2 hl)
  ·cases hl
theorem downT {g1:Nat → Value} {ks:List Nat} {n m:Nat} (hg:∀ j,j < m → g1 j = g (upN ks n j)):∀ {cs:List V} {us:List Value},AtVs I w g us (upT ks n cs) → lowT m cs = true → AtVs I w g1 us cs
 | [],us,h,_=>by rw [upT] at h;rw [h.unnil];exact .nil I w g1
 | c :: cs,us,h,hl=>by
  rw [upT] at h
  obtain ⟨u,us',rfl,h1,h2⟩:=h.uncons
  rw [lowT] at hl
  split at hl
  ·rename_i hc
   refine .cons ?_ (downT hg h2 hl)
   cases c with
   | ag l=>obtain ⟨vs,rfl,h3⟩:=AtV.unag h1;exact atV_ag (downL hg h3 hc)
   | tu l =>
    cases l with
    | nil =>
     obtain ⟨vs,rfl,h3⟩:=AtV.untu h1
     rw [h3.unnil]
     exact atV_tu (.nil I w g1)
    | cons c l=>cases hc
   | d x=>exact down1 hg h1 hc
   | em=>exact down1 hg h1 hc
   | own k=>exact down1 hg h1 hc
   | ptr k off=>exact down1 hg h1 hc
   | cl f l=>exact down1 hg h1 hc
   | el k i sz off=>exact down1 hg h1 hc
   | ro l off=>exact down1 hg h1 hc
   | mp k=>exact down1 hg h1 hc
   | bs k n=>exact down1 hg h1 hc
   | jk=>exact .jk _
  ·cases hl
theorem rise1 {g1:Nat → Value} {ks:List Nat} {n:Nat} (hg:∀ j,g1 j ≠ .nilFunc → g (upN ks n j) = g1 j) {v:Value} {x:V} (h:AtV I w g1 v x):AtV I w g v (up1 ks n x):=by
 cases h with
 | d h=>exact .d h
 | ag=>exact .jk _
 | tu=>exact .jk _
 | em=>exact .em
 | own j A m cap h=>exact .own _ A m cap ((congrArg gv (hg j (by intro e;rw [e] at h;cases h))).trans h)
 | ptr j off b h=>exact .ptr _ off b ((hg j (by rw [h];simp)).trans h)
 | cl f us l hl h =>
  refine .cl f us _ (by rw [upK_len];exact hl) fun i u k hu hk=>?_
  rw [upK_get] at hk
  obtain ⟨j,hj,rfl⟩:=Option.map_eq_some_iff.1 hk
  obtain ⟨h1,b,h2⟩:=h i u j hu hj
  have h3:=hg j (by rw [h2];simp)
  exact ⟨h1.trans h3.symm,b,h3.trans h2⟩
 | el j i sz off b m cap h=>exact .el _ i sz off b m cap ((hg j (by rw [h];simp)).trans h)
 | ro b o off us cs hi hc hd=>exact .ro b o off us cs hi hc hd
 | mp j b h=>exact .mp _ b ((hg j (by rw [h];simp)).trans h)
 | bs j m' b cap h hn=>exact .bs _ m' b cap ((hg j (by rw [h];simp)).trans h) hn
 | jk v=>exact .jk v
theorem riseL {g1:Nat → Value} {ks:List Nat} {n:Nat} (hg:∀ j,g1 j ≠ .nilFunc → g (upN ks n j) = g1 j):∀ {cs:List V} {us:List Value},AtVs I w g1 us cs → AtVs I w g us (upL ks n cs)
 | [],us,h=>by rw [h.unnil];exact .nil I w g
 | c :: cs,us,h=>by
  obtain ⟨u,us',rfl,h1,h2⟩:=h.uncons
  exact .cons (rise1 hg h1) (riseL hg h2)
theorem rise2 {g1:Nat → Value} {ks:List Nat} {n:Nat} (hg:∀ j,g1 j ≠ .nilFunc → g (upN ks n j) = g1 j) {v:Value} {x:V} (h:AtV I w g1 v x):AtV I w g v (up2 ks n x):=by
 cases x with
 | ag l=>obtain ⟨vs,rfl,h3⟩:=AtV.unag h;exact atV_ag (riseL hg h3)
 | tu l =>
  cases l with
  | nil =>
   obtain ⟨vs,rfl,h3⟩:=AtV.untu h
   rw [h3.unnil]
   exact atV_tu (.nil I w g)
  | cons c l=>exact rise1 hg h
 | _=>exact rise1 hg h
theorem riseT {g1:Nat → Value} {ks:List Nat} {n:Nat} (hg:∀ j,g1 j ≠ .nilFunc → g (upN ks n j) = g1 j):∀ {cs:List V} {us:List Value},AtVs I w g1 us cs → AtVs I w g us (upT ks n cs)
 | [],us,h=>by rw [h.unnil];exact .nil I w g
 | c :: cs,us,h=>by
  obtain ⟨u,us',rfl,h1,h2⟩:=h.uncons
  exact .cons (rise2 hg h1) (riseT hg h2)
theorem pkg_at:∀ {vs:List V} {us:List Value},AtVs I w g us vs → AtV I w g (pkg us) (pkgV vs)
 | [],us,h=>by rw [h.unnil];exact atV_tu (.nil I w g)
 | [v],us,h=>by
  obtain ⟨u,us',rfl,h1,h2⟩:=h.uncons
  rw [h2.unnil]
  exact h1
 | v :: v' :: vs,us,h=>by
  obtain ⟨u,us',rfl,h1,h2⟩:=h.uncons
  obtain ⟨u',us'',rfl,h3,h4⟩:=h2.uncons
  exact atV_tu h
def killLs:List Nat → List V → List V
 | [],t=>t
 | k :: ks,t=>killLs ks (killL k t)
theorem killLs_at {g2:Nat → Value}:∀ (ks:List Nat) (g:Nat → Value) {cs:List V} {us:List Value},(∀ j,j ∉ ks → g2 j = g j) → (∀ j,isRef (g j) = true → g2 j = g j) → AtVs I w g us cs → AtVs I w g2 us (killLs ks cs)
 | [],g,cs,us,hg,hp,h=>by
  have:g2 = g:=funext fun j=>hg j (by simp)
  subst this
  exact h
 | k :: ks,g,cs,us,hg,hp,h=>by
  refine killLs_at ks (upd g k (g2 k)) (fun j hj=>?_) (fun j hb=>?_) (killL_at (k:=k) (fun j hj=>upd_ne hj) (fun ha=>by rw [upd_same];exact hp k ha) h)
  ·by_cases e:j = k
   ·subst e;rw [upd_same]
   ·rw [upd_ne e];exact hg j (by simp [e,hj])
  ·by_cases e:j = k
   ·subst e;rw [upd_same]
   ·rw [upd_ne e] at hb ⊢;exact hp j hb
theorem killTs_at {g2:Nat → Value}:∀ (ks:List Nat) (g:Nat → Value) {cs:List V} {us:List Value},(∀ j,j ∉ ks → g2 j = g j) → (∀ j,isRef (g j) = true → g2 j = g j) → AtVs I w g us cs → AtVs I w g2 us (killTs ks cs)
 | [],g,cs,us,hg,hp,h=>by
  have:g2 = g:=funext fun j=>hg j (by simp)
  subst this
  exact h
 | k :: ks,g,cs,us,hg,hp,h=>by
  refine killTs_at ks (upd g k (g2 k)) (fun j hj=>?_) (fun j hb=>?_) (killT_at (k:=k) (fun j hj=>upd_ne hj) (fun ha=>by rw [upd_same];exact hp k ha) h)
  ·by_cases e:j = k
   ·subst e;rw [upd_same]
   ·rw [upd_ne e];exact hg j (by simp [e,hj])
  ·by_cases e:j = k
   ·subst e;rw [upd_same]
   ·rw [upd_ne e] at hb ⊢;exact hp j hb
def killKs:List Nat → List Nat → List Nat
 | [],l=>l
 | k :: ks,l=>killKs ks (k :: l)
theorem killKs_mem:∀ {ks l:List Nat} {j:Nat},j ∈ ks ∨ j ∈ l → j ∈ killKs ks l
 | [],l,j,h=>h.resolve_left (by simp)
 | k :: ks,l,j,h=>by
  rw [killKs]
  refine killKs_mem ?_
  rcases h with h | h
  ·rcases List.mem_cons.1 h with rfl | h
   ·exact .inr (List.mem_cons_self ..)
   ·exact .inl h
  ·exact .inr (List.mem_cons_of_mem _ h)
theorem killOs_get:∀ (ks:List Nat) (l:List O) (j:Nat) (o:O),(killOs ks l)[j]? = some o → ∃ o',l[j]? = some o' ∧ (o ≠ .dead → o' ≠ .dead) ∧ ((∃ cs,o' = .box cs ∧ o = .box (killLs ks cs)) ∨ (∃ js,o' = .kl js ∧ o = .kl (killKs ks js)) ∨ (o = o' ∧ (∀ cs,o ≠ .box cs) ∧ ∀ js,o ≠ .kl js))
 | [],l,j,o,h=>⟨o,h,fun h=>h,by
  cases o with
  | box cs=>exact .inl ⟨cs,rfl,rfl⟩
  | kl js=>exact .inr (.inl ⟨js,rfl,rfl⟩)
  | row z e r=>exact .inr (.inr ⟨rfl,by simp,by simp⟩)
  | mp kt es=>exact .inr (.inr ⟨rfl,by simp,by simp⟩)
  | it P=>exact .inr (.inr ⟨rfl,by simp,by simp⟩)
  | ob T vs=>exact .inr (.inr ⟨rfl,by simp,by simp⟩)
  | dead=>exact .inr (.inr ⟨rfl,by simp,by simp⟩)⟩
 | k :: ks,l,j,o,h=>by
  obtain ⟨o1,h1,h2,h3⟩:=killOs_get ks (killO k l) j o h
  obtain ⟨o2,h4,h5,h6⟩:=killO_get k l j o1 h1
  refine ⟨o2,h4,fun hd=>h5 (h2 hd),?_⟩
  rcases h3 with ⟨cs,rfl,rfl⟩ | ⟨cs,rfl,rfl⟩ | ⟨rfl,hb,hf⟩
  ·rcases h6 with ⟨cs',rfl,e⟩ | ⟨cs',rfl,e⟩ | ⟨rfl,hb,_⟩
   ·injection e with e
    subst e
    exact .inl ⟨cs',rfl,rfl⟩
   ·cases e
   ·exact absurd rfl (hb cs)
  ·rcases h6 with ⟨cs',rfl,e⟩ | ⟨cs',rfl,e⟩ | ⟨rfl,_,hb⟩
   ·cases e
   ·injection e with e
    subst e
    exact .inr (.inl ⟨cs',rfl,rfl⟩)
   ·exact absurd rfl (hb cs)
  ·rcases h6 with ⟨cs',rfl,e⟩ | ⟨cs',rfl,e⟩ | ⟨rfl,_,_⟩
   ·exact absurd e (hb _)
   ·exact absurd e (hf _)
   ·exact .inr (.inr ⟨rfl,hb,hf⟩)
theorem killOs_len:∀ (ks:List Nat) (l:List O),(killOs ks l).length = l.length
 | [],l=>rfl
 | k :: ks,l=>by rw [killOs,killOs_len ks,killO_len]
theorem appO_is:∀ l m:List O,appO l m = l ++ m
 | [],m=>rfl
 | x :: l,m=>by rw [appO,appO_is l m];rfl
theorem backO_in:∀ {ks:List Nat} {os l:List O},ks.Nodup → (∀ k ∈ ks,k < l.length) → ks.length ≤ os.length → ∀ {i k:Nat},ks[i]? = some k → (backO ks os l)[k]? = os[i]?
 | [],os,l,_,_,_,i,k,h=>by simp at h
 | k0 :: ks,[],l,_,_,hl,i,k,h=>by simp at hl
 | k0 :: ks,x :: os,l,hn,hk,hl,i,k,h=>by
  rw [backO,setO_is]
  obtain ⟨hn1,hn2⟩:=List.nodup_cons.1 hn
  have hk':∀ k ∈ ks,k < (l.set k0 x).length:=fun k hm=>by rw [List.length_set];exact hk k (List.mem_cons_of_mem _ hm)
  cases i with
  | zero =>
   simp at h
   subst h
   rw [backO_out hk' (by simpa using hl) hn1 (by rw [List.length_set];exact hk _ (List.mem_cons_self ..)),List.getElem?_set_self (hk _ (List.mem_cons_self ..))]
   rfl
  | succ i =>
   rw [backO_in hn2 hk' (by simpa using hl) (i:=i) (by simpa using h)]
   simp
where
 backO_out:∀ {ks:List Nat} {os l:List O},(∀ k ∈ ks,k < l.length) → ks.length ≤ os.length → ∀ {k:Nat},k ∉ ks → k < l.length → (backO ks os l)[k]? = l[k]?
  | [],os,l,_,_,k,_,hlt=>by
   rw [backO,appO_is,List.getElem?_append_left hlt]
   simp
  | k0 :: ks,[],l,_,hl,k,_,_=>by simp at hl
  | k0 :: ks,x :: os,l,hk,hl,k,hn,hlt=>by
   rw [backO,setO_is,backO_out (fun k hm=>by rw [List.length_set];exact hk k (List.mem_cons_of_mem _ hm)) (by simpa using hl) (fun hm=>hn (List.mem_cons_of_mem _ hm)) (by rw [List.length_set];exact hlt),List.getElem?_set_ne fun e=>hn (by rw [← e];exact List.mem_cons_self ..)]
theorem backO_new:∀ {ks:List Nat} {os l:List O},ks.length ≤ os.length → ∀ d,(backO ks os l)[l.length + d]? = os[ks.length + d]?
 | [],os,l,_,d=>by
  rw [backO,appO_is,List.getElem?_append_right (Nat.le_add_right _ _)]
  ·simp
  ·simp
 | k0 :: ks,[],l,hl,d=>by simp at hl
 | k0 :: ks,x :: os,l,hl,d=>by
  rw [backO,setO_is]
  have:=backO_new (ks:=ks) (os:=os) (l:=l.set k0 x) (by simpa using hl) d
  rw [List.length_set] at this
  rw [this,List.length_cons,Nat.add_right_comm]
  simp
theorem backO_len:∀ {ks:List Nat} {os l:List O},ks.length ≤ os.length → (backO ks os l).length = l.length + (os.length - ks.length)
 | [],os,l,_=>by
  rw [backO,appO_is]
  ·simp
  ·simp
 | k0 :: ks,[],l,hl=>by simp at hl
 | k0 :: ks,x :: os,l,hl=>by
  rw [backO,setO_is,backO_len (by simpa using hl),List.length_set]
  simp
theorem upOs_get {ks:List Nat} {n:Nat}:∀ (l:List O) (i:Nat),(upOs ks n l)[i]? = (l[i]?).map (upO ks n)
 | [],i=>by simp [upOs]
 | j :: l,0=>by simp [upOs]
 | j :: l,i + 1=>by simpa [upOs] using upOs_get l i
theorem upOs_len {ks:List Nat} {n:Nat}:∀ l:List O,(upOs ks n l).length = l.length
 | []=>rfl
 | j :: l=>by simp [upOs,upOs_len l]
theorem memN_is {k:Nat}:∀ {l:List Nat},memN k l = true ↔ k ∈ l
 | []=>by simp [memN]
 | j :: l=>by
  rw [memN]
  cases e:eqN j k
  ·show memN k l = true ↔ k ∈ j :: l
   rw [memN_is,List.mem_cons]
   have:=eqN_no.1 e
   exact Iff.intro (fun h=>.inr h) fun h=>h.resolve_left fun e=>this e.symm
  ·simp [eqN_is.1 e]
theorem nodupN_is:∀ {l:List Nat},nodupN l = true → l.Nodup
 | [],_=>List.nodup_nil
 | k :: l,h=>by
  rw [nodupN] at h
  split at h
  ·cases h
  ·rename_i hm
   exact List.nodup_cons.2 ⟨fun hk=>(by rw [memN_is.2 hk] at hm;cases hm),nodupN_is h⟩
theorem nodup_inj:∀ {l:List Nat},l.Nodup → ∀ {i j k:Nat},l[i]? = some k → l[j]? = some k → i = j
 | [],_,i,j,k,h,_=>by simp at h
 | x :: l,hn,i,j,k,hi,hj=>by
  obtain ⟨h1,h2⟩:=List.nodup_cons.1 hn
  cases i with
  | zero =>
   cases j with
   | zero=>rfl
   | succ j =>
    simp at hi hj
    subst hi
    exact absurd (List.mem_of_getElem? hj) h1
  | succ i =>
   cases j with
   | zero =>
    simp at hi hj
    subst hj
    exact absurd (List.mem_of_getElem? hi) h1
   | succ j=>exact congrArg (· + 1) (nodup_inj h2 (k:=k) (by simpa using hi) (by simpa using hj))
theorem pick_get:∀ {ks:List Nat} {l:List O} {i k:Nat},ks[i]? = some k → (pick ks l)[i]? = some (getO l k)
 | [],_,_,_,h=>by simp at h
 | k0 :: ks,l,0,k,h=>by simp at h;subst h;rfl
 | k0 :: ks,l,i + 1,k,h=>by simpa [pick] using pick_get (l:=l) (i:=i) (by simpa using h)
theorem alive_get:∀ {l:List O},alive l = true → ∀ o ∈ l,o ≠ .dead ∧ ∀ js,o ≠ .kl js
 | [],_,o,h=>by simp at h
 | x :: l,h,o,hm=>by
  cases x with
  | dead=>cases h
  | box cs =>
   rcases List.mem_cons.1 hm with rfl | hm
   ·simp
   ·exact alive_get (l:=l) h o hm
  | row z e r =>
   rcases List.mem_cons.1 hm with rfl | hm
   ·simp
   ·exact alive_get (l:=l) h o hm
  | mp kt es =>
   rcases List.mem_cons.1 hm with rfl | hm
   ·simp
   ·exact alive_get (l:=l) h o hm
  | it P =>
   rcases List.mem_cons.1 hm with rfl | hm
   ·simp
   ·exact alive_get (l:=l) h o hm
  | ob T vs =>
   rcases List.mem_cons.1 hm with rfl | hm
   ·simp
   ·exact alive_get (l:=l) h o hm
  | kl js=>cases h
structure SubOk (ks:List Nat) (vs':List V) (os':List O) (vs:List V) (s:S):Prop where
 nd:nodupN ks = true
 len:lenO os' = lenL ks
 args:upT ks (lenO s.o) vs' = vs
 objs:pick ks s.o = upOs ks (lenO s.o) os'
 al:alive os' = true
 low:lowT (lenL ks) vs' = true
 lowo:lowO (lenL ks) os' = true
theorem SubOk.nokl {ks:List Nat} {vs' vs:List V} {os':List O} {s:S} (h:SubOk ks vs' os' vs s) {i:Nat} {o:O} (ho:os'[i]? = some o):∀ js,o ≠ .kl js:=(alive_get h.al o (List.mem_of_getElem? ho)).2
theorem SubOk.obj {ks:List Nat} {vs' vs:List V} {os':List O} (h:SubOk ks vs' os' vs s) {i k:Nat} (hi:ks[i]? = some k):∃ o,os'[i]? = some o ∧ (o ≠ .dead ∧ ∀ js,o ≠ .kl js) ∧ s.o[k]? = some (upO ks s.o.length o):=by
 have hl:=h.len
 rw [lenO_is,lenL_is] at hl
 have hlt:i < os'.length:=by rw [hl];exact (List.getElem?_eq_some_iff.1 hi).1
 have h1:=pick_get (l:=s.o) hi
 rw [h.objs,upOs_get,List.getElem?_eq_getElem hlt] at h1
 have hd:=alive_get h.al os'[i] (List.getElem_mem hlt)
 refine ⟨os'[i],List.getElem?_eq_getElem hlt,hd,?_⟩
 have h2:=Option.some.inj h1
 rw [← lenO_is,h2]
 refine getO_some rfl ?_
 rw [← h2]
 generalize os'[i] = o at hd
 cases o <;> simp_all [upO]
def sub (ks:List Nat) (g:Nat → Value) (i:Nat):Value:=match ks[i]? with | some k=>g k | none=>.nilFunc
theorem sub_at (h:RelI I0 X w0 I g s a w) {ks:List Nat} {vs' vs:List V} {os':List O} {args:List Value} (hs:SubOk ks vs' os' vs s) (hv:AtVs I w g args vs):RelI I (Xof (sub ks g) os') ⟨w,sub ks g,os'.length,[]⟩ I (sub ks g) ⟨vs',os'⟩ { tmps:=args.toArray,defers:=[] } w:=by
 have hl:=hs.len
 rw [lenO_is,lenL_is] at hl
 have hg:∀ j,j < lenL ks → sub ks g j = g (upN ks (lenO s.o) j):=fun j hj=>by
  rw [lenL_is] at hj
  unfold sub
  rw [upN_lt hj]
 have hgs:∀ {i k:Nat},ks[i]? = some k → sub ks g i = g k:=fun {i k} h=>by unfold sub;rw [h]
 have hX:∀ {i:Nat} {o:O},os'[i]? = some o → o ≠ .dead → ∀ b,gbl (sub ks g i) b → Mine (Xof (sub ks g) os') ⟨w,sub ks g,os'.length,[]⟩ b:=fun {i o} ho hd b hb=>.inr ⟨i,o,ho,hd,hb⟩
 refine ⟨fun _ _ h=>h,fun b k hb=>⟨(h.lt b k hb).1,fun _=>.inl hb⟩,Fr.refl _ _,Keeps.refl _ _,Nat.le_refl _,fun _ _ _=>rfl,fun i o ho=>?_,fun i j b hi hj hbi hbj=>?_,fun i hi=>?_,?_,rfl,?_⟩
 ·have hlt:i < ks.length:=by rw [← hl];exact (List.getElem?_eq_some_iff.1 ho).1
  have hi:ks[i]? = some ks[i]:=List.getElem?_eq_getElem hlt
  obtain ⟨o',ho',⟨hd,_⟩,hso⟩:=hs.obj hi
  have ho:os'[i]? = some o:=ho
  rw [ho] at ho'
  injection ho' with ho'
  subst ho'
  have hob:=h.obj _ _ hso
  have hgi:=hgs hi
  cases o with
  | dead=>exact True.intro
  | box cs =>
   obtain ⟨b,us,t,h1,h2,h3,h4,h5,h6⟩:=hob
   refine ⟨b,us,t,by rw [hgi];exact h1,h2,downL hg (by rw [lenO_is];exact h3) (lowO_at hs.lowo ho),h4,h5,hX ho hd b (by rw [hgi,h1];rfl)⟩
  | row z e rows =>
   obtain ⟨us,h1,h2,h3,h4⟩:=hob
   refine ⟨us,by rw [hgi];exact h1,h2,h3,fun b hb=>?_⟩
   rw [hgi] at hb
   exact ⟨(h4 b hb).1,(h4 b hb).2.1,hX ho hd b (by rw [hgi];exact (own_gblk h1).2 hb)⟩
  | mp kt es =>
   obtain ⟨b,l,c,h1,h2,h3,h4,h5⟩:=hob
   exact ⟨b,l,c,by rw [hgi];exact h1,h2,h3,h4,hX ho hd b (by rw [hgi,h1];rfl)⟩
  | ob T vs =>
   obtain ⟨b,h1,h2,h4,h5⟩:=hob
   exact ⟨b,by rw [hgi];exact h1,h2,h4,hX ho hd b (by rw [hgi,h1];rfl)⟩
  | it P =>
   obtain ⟨A,n,cap,F,h1,h2,h3,h4⟩:=hob
   exact ⟨A,n,cap,F,by rw [hgi];exact h1,h2,h3,fun b hb=>⟨(h4 b hb).1,(h4 b hb).2.1,hX ho hd b (by rw [hgi,h1,gbl_pack];exact hb)⟩⟩
  | kl js=>exact absurd rfl (hs.nokl ho js)
 ·obtain ⟨oi,hoi,hdi⟩:=hi
  obtain ⟨oj,hoj,hdj⟩:=hj
  have hli:i < ks.length:=by rw [← hl];exact (List.getElem?_eq_some_iff.1 hoi).1
  have hlj:j < ks.length:=by rw [← hl];exact (List.getElem?_eq_some_iff.1 hoj).1
  have hi:ks[i]? = some ks[i]:=List.getElem?_eq_getElem hli
  have hj:ks[j]? = some ks[j]:=List.getElem?_eq_getElem hlj
  have liv:∀ {i k:Nat},ks[i]? = some k → live s k:=fun {i k} h=>by
   obtain ⟨o,_,hd,hso⟩:=hs.obj h
   exact ⟨_,hso,by cases o <;> simp_all [upO]⟩
  rw [hgs hi] at hbi
  rw [hgs hj] at hbj
  have:=h.dis _ _ b (liv hi) (liv hj) hbi hbj
  exact nodup_inj (nodupN_is hs.nd) hi (by rw [this];exact hj)
 ·have hi:os'.length ≤ i:=hi
  unfold sub
  rw [List.getElem?_eq_none (by omega)]
 ·show AtVs I w (sub ks g) args vs'
  exact downT hg (by rw [hs.args];exact hv) hs.low
 ·refine h.tabs fun b ⟨i,o,ho,hd,hb⟩=>?_
  have hlt:i < ks.length:=by rw [← hl];exact (List.getElem?_eq_some_iff.1 ho).1
  have hi:ks[i]? = some ks[i]:=List.getElem?_eq_getElem hlt
  obtain ⟨o',ho',⟨hd',_⟩,hso⟩:=hs.obj hi
  rw [hgs hi] at hb
  exact ((h.obj _ _ hso).blk (by cases o' <;> simp_all [upO]) b hb).2
def idxN:List Nat → Nat → Option Nat
 | [],_=>none
 | j :: l,k=>if j = k then some 0 else (idxN l k).map (· + 1)
theorem idxN_in:∀ {l:List Nat},l.Nodup → ∀ {i k:Nat},l[i]? = some k → idxN l k = some i
 | [],_,i,k,h=>by simp at h
 | x :: l,hn,i,k,h=>by
  obtain ⟨h1,h2⟩:=List.nodup_cons.1 hn
  rw [idxN]
  cases i with
  | zero=>simp at h;rw [if_pos h]
  | succ i =>
   have h3:l[i]? = some k:=by simpa using h
   rw [if_neg fun e=>h1 (by rw [e];exact List.mem_of_getElem? h3),idxN_in h2 h3]
   rfl
theorem idxN_out:∀ {l:List Nat} {k:Nat},k ∉ l → idxN l k = none
 | [],_,_=>rfl
 | x :: l,k,h=>by
  rw [idxN,if_neg fun e=>h (by rw [e];exact List.mem_cons_self ..),idxN_out fun hm=>h (List.mem_cons_of_mem _ hm)]
  rfl
theorem upO_dead {ks:List Nat} {n:Nat} {o:O} (h:upO ks n o ≠ .dead):o ≠ .dead:=by cases o <;> simp_all [upO]
theorem upO_live {ks:List Nat} {n:Nat} {o:O} (h:o ≠ .dead) (hk:∀ js,o ≠ .kl js):upO ks n o ≠ .dead:=by cases o <;> simp_all [upO]
theorem called (h:RelI I0 X w0 I g s a w) {ks:List Nat} {vs' vs res:List V} {os' os2:List O} {us:List Value} {w':World} {I':Nat → Nat → Prop} {g1:Nat → Value} (hs:SubOk ks vs' os' vs s)
    (h1:RelI I (Xof (sub ks g) os') ⟨w,sub ks g,os'.length,[]⟩ I' g1 ⟨res,os2⟩ { tmps:=us.toArray,defers:=[] } w'):∃ g2,RelI I0 X w0 I' g2 (back ks os2 s) a w' ∧ AtV I' w' g2 (pkg us) (pkgV (upT ks (lenO s.o) res)) ∧ ((∀ i k,ks[i]? = some k → g1 i = g k) → RelI I0 X w0 I' g2 ⟨s.t,backO ks (upOs ks (lenO s.o) os2) s.o⟩ a w'):=by
  have hm:=hs.len
  rw [lenO_is,lenL_is] at hm
  have hnd:=nodupN_is hs.nd
  obtain ⟨n,hn⟩:∃ n,n = s.o.length:=⟨_,rfl⟩
  have hklt:∀ k ∈ ks,k < n:=fun k hk=>by
    obtain ⟨i,hi⟩:=List.mem_iff_getElem?.1 hk
    obtain ⟨o,_,_,ho⟩:=hs.obj hi
    rw [hn]
    exact (List.getElem?_eq_some_iff.1 ho).1
  have hm2:ks.length ≤ os2.length:=by rw [← hm];exact h1.lo
  obtain ⟨g2,hg2⟩:∃ g2:Nat → Value,g2 = fun k=>match idxN ks k with | some i=>g1 i | none=>if k < n then g k else g1 (ks.length + (k - n)):=⟨_,rfl⟩
  have f_in:∀ {i k:Nat},ks[i]? = some k → g2 k = g1 i:=fun {i k} hi=>by rw [hg2];simp only;rw [idxN_in hnd hi]
  have f_out:∀ k,k ∉ ks → k < n → g2 k = g k:=fun k hk hlt=>by rw [hg2];simp only;rw [idxN_out hk];simp only;rw [if_pos hlt]
  have f_new:∀ d,g2 (n + d) = g1 (ks.length + d):=fun d=>by
    rw [hg2];simp only
    rw [idxN_out fun hk=>by have:=hklt _ hk;omega]
    simp only
    rw [if_neg (by omega)]
    congr 1
    omega
  have f1:∀ j,g2 (upN ks n j) = g1 j:=fun j=>by
    rcases Nat.lt_or_ge j ks.length with hj | hj
    · exact f_in (upN_lt hj)
    · rw [upN_ge hj,f_new]
      congr 1
      omega
  have gsub:∀ {i k:Nat},ks[i]? = some k → sub ks g i = g k:=fun {i k} h=>by unfold sub;rw [h]
  have f_ref:∀ j,isRef (g j) = true → g2 j = g j:=fun j hr=>by
    by_cases hj:j ∈ ks
    · obtain ⟨i,hi⟩:=List.mem_iff_getElem?.1 hj
      have hlt:=(List.getElem?_eq_some_iff.1 hi).1
      rw [f_in hi,h1.st i (by show i < os'.length;rw [hm];exact hlt) (by show isRef (sub ks g i) = true;rw [gsub hi];exact hr)]
      exact gsub hi
    · refine f_out j hj ?_
      rcases Nat.lt_or_ge j n with hlt | hge
      · exact hlt
      · rw [h.out j (by omega)] at hr;cases hr
  have xof:∀ b,Xof (sub ks g) os' b → ∃ k,k ∈ ks ∧ live s k ∧ gbl (g k) b ∧ b < w.heap.size ∧ Mine X w0 b:=fun b ⟨i,o,ho,hd,hb⟩=>by
    have hlt:i < ks.length:=by rw [← hm];exact (List.getElem?_eq_some_iff.1 ho).1
    have hi:ks[i]? = some ks[i]:=List.getElem?_eq_getElem hlt
    obtain ⟨o',ho',hd',hso⟩:=hs.obj hi
    rw [gsub hi] at hb
    have hdd:upO ks s.o.length o' ≠ .dead:=upO_live hd'.1 hd'.2
    have:=(h.obj _ _ hso).blk hdd b hb
    exact ⟨ks[i],List.getElem_mem hlt,⟨_,hso,hdd⟩,hb,this.1,this.2⟩
  have mine:∀ b,Mine (Xof (sub ks g) os') ⟨w,sub ks g,os'.length,[]⟩ b → Mine X w0 b:=fun b hb=>by
    rcases hb with hb | hb
    · exact .inl (Nat.le_trans h.fr.size hb)
    · obtain ⟨k,_,_,_,_,hM⟩:=xof b hb
      exact hM
  have hkp:Keeps I w w':=h1.kp
  have hII:∀ b k,I b k → I' b k:=h1.im
  have hlen:(back ks os2 s).o.length = n + (os2.length - ks.length):=by
    show (backO ks (upOs ks (lenO s.o) os2) (killOs ks s.o)).length = _
    rw [backO_len (by rw [upOs_len];exact hm2),killOs_len,upOs_len,hn]
  have each:∀ k o,(back ks os2 s).o[k]? = some o → (∃ i o1,os2[i]? = some o1 ∧ o = upO ks n o1 ∧ g2 k = g1 i ∧ k = upN ks n i) ∨ (k ∉ ks ∧ k < n ∧ g2 k = g k ∧ ∃ o',s.o[k]? = some o' ∧ (o ≠ .dead → o' ≠ .dead) ∧ ((∃ cs,o' = .box cs ∧ o = .box (killLs ks cs)) ∨ (∃ js,o' = .kl js ∧ o = .kl (killKs ks js)) ∨ (o = o' ∧ (∀ cs,o ≠ .box cs) ∧ ∀ js,o ≠ .kl js))):=fun k o hk=>by
    have hk:(backO ks (upOs ks (lenO s.o) os2) (killOs ks s.o))[k]? = some o:=hk
    rw [lenO_is,← hn] at hk
    have hkl:∀ k ∈ ks,k < (killOs ks s.o).length:=fun k hk=>by rw [killOs_len,← hn];exact hklt k hk
    have hol:ks.length ≤ (upOs ks n os2).length:=by rw [upOs_len];exact hm2
    by_cases hin:k ∈ ks
    · obtain ⟨i,hi⟩:=List.mem_iff_getElem?.1 hin
      rw [backO_in hnd hkl hol hi,upOs_get] at hk
      obtain ⟨o1,ho1,rfl⟩:=Option.map_eq_some_iff.1 hk
      have hlt:=(List.getElem?_eq_some_iff.1 hi).1
      have h3:=upN_lt (n:=n) hlt
      rw [hi] at h3
      exact .inl ⟨i,o1,ho1,rfl,f_in hi,Option.some.inj h3⟩
    · rcases Nat.lt_or_ge k n with hlt | hge
      · rw [backO_in.backO_out hkl hol hin (by rw [killOs_len,← hn];exact hlt)] at hk
        exact .inr ⟨hin,hlt,f_out k hin hlt,killOs_get ks s.o k o hk⟩
      · obtain ⟨d,rfl⟩:∃ d,k = n + d:=⟨k - n,by omega⟩
        have hnl:(killOs ks s.o).length + d = n + d:=by rw [killOs_len,← hn]
        rw [← hnl,backO_new hol d,upOs_get] at hk
        obtain ⟨o1,ho1,rfl⟩:=Option.map_eq_some_iff.1 hk
        refine .inl ⟨ks.length + d,o1,ho1,rfl,f_new d,?_⟩
        rw [upN_ge (by omega)]
        omega
  have hgm:∀ k,(if k < n then g2 k else g k) ≠ .nilFunc → g2 k = (if k < n then g2 k else g k):=fun k hk=>by
    by_cases hlt:k < n
    · rw [if_pos hlt]
    · rw [if_neg hlt] at hk
      exact absurd (h.out k (by omega)) hk
  have hk1:∀ j,j ∉ ks → (if j < n then g2 j else g j) = g j:=fun j hj=>by
    by_cases hlt:j < n
    · rw [if_pos hlt];exact f_out j hj hlt
    · rw [if_neg hlt]
  have hk2:∀ j,isRef (g j) = true → (if j < n then g2 j else g j) = g j:=fun j hb=>by
    by_cases hlt:j < n
    · rw [if_pos hlt];exact f_ref j hb
    · rw [if_neg hlt]
  have f1':∀ j,g1 j ≠ .nilFunc → g2 (upN ks n j) = g1 j:=fun j _=>f1 j
  have hR:RelI I0 X w0 I' g2 (back ks os2 s) a w':=by
   refine ⟨fun b k hb=>hII _ _ (h.im b k hb),fun b k hb=>⟨(h1.lt b k hb).1,fun hlt=>?_⟩,⟨h1.fr.os.trans h.fr.os,h1.fr.tape.trans h.fr.tape,h1.fr.output.trans h.fr.output,Nat.le_trans h.fr.size h1.fr.size,fun b hb hX=>?_⟩,h.kp.trans fun b k hb i hi=>hkp b k (h.im b k hb) i hi,?_,fun k hk hr=>?_,fun k o hk=>?_,fun j k b hj hk hbj hbk=>?_,fun k hk=>?_,?_,h.dfr⟩
   · rcases (h1.lt b k hb).2 (Nat.lt_of_lt_of_le hlt h.fr.size) with h3 | h3
     · exact (h.lt b k h3).2 hlt
     · obtain ⟨_,_,_,_,_,hM⟩:=xof b h3
       rcases hM with hM | hM
       · omega
       · exact .inr hM
   · refine (h1.fr.block b (Nat.lt_of_lt_of_le hb h.fr.size) fun hx=>?_).trans (h.fr.block b hb hX)
     obtain ⟨_,_,_,_,_,hM⟩:=xof b hx
     rcases hM with hM | hM
     · omega
     · exact hX hM
   · rw [hlen]
     have:=h.lo
     omega
   · have e:=h.st k hk hr
     rw [← e] at hr ⊢
     exact f_ref k hr
   · rcases each k o hk with ⟨i,o1,ho1,rfl,e,_⟩ | ⟨hin,hlt,e,o',ho',hdd,hsh⟩
     · have hob:=h1.obj i o1 ho1
       cases o1 with
       | dead=>exact True.intro
       | box cs =>
         obtain ⟨b,us,t,a1,a2,a3,a4,a5,a6⟩:=hob
         exact ⟨b,us,t,e.trans a1,a2,riseL f1' a3,a4,a5,mine b a6⟩
       | row z e2 rows =>
         obtain ⟨us,a1,a2,a3,a4⟩:=hob
         exact ⟨us,by rw [e];exact a1,a2,a3,fun b hb=>by rw [e] at hb;exact ⟨(a4 b hb).1,(a4 b hb).2.1,mine b (a4 b hb).2.2⟩⟩
       | mp kt es =>
         obtain ⟨b,l,c,a1,a2,a3,a4,a5⟩:=hob
         exact ⟨b,l,c,e.trans a1,a2,a3,a4,mine b a5⟩
       | ob T vs =>
         obtain ⟨b,a1,a2,a4,a5⟩:=hob
         exact ⟨b,e.trans a1,a2,a4,mine b a5⟩
       | it P =>
         obtain ⟨A,n',cap,F,a1,a2,a3,a4⟩:=hob
         exact ⟨A,n',cap,F,e.trans a1,a2,a3,fun b hb=>⟨(a4 b hb).1,(a4 b hb).2.1,mine b (a4 b hb).2.2⟩⟩
       | kl js=>exact True.intro
     · by_cases hd:o = .dead
       · subst hd;exact True.intro
       have hd':=hdd hd
       have hob:=h.obj k o' ho'
       have nox:∀ b,gbl (g k) b → ¬ Xof (sub ks g) os' b:=fun b hb hx=>by
         obtain ⟨k',hk',hl',hb',_⟩:=xof b hx
         exact hin (by rw [h.dis k k' b ⟨_,ho',hd'⟩ hl' hb hb'];exact hk')
       have hkeep:ObjAt X w0 I' w' g k o':=by
         refine hob.keep hII hkp (fun b hb=>h1.fr.block b (hob.blk hd' b hb).1 (nox b hb)) fun b hb k' hk'=>?_
         rcases (h1.lt b k' hk').2 (hob.blk hd' b hb).1 with h3 | h3
         · exact h3
         · exact absurd h3 (nox b hb)
       rcases hsh with ⟨cs,rfl,rfl⟩ | ⟨cs,rfl,rfl⟩ | ⟨rfl,hnb,hnf⟩
       · obtain ⟨b,us,t,a1,a2,a3,a4⟩:=hkeep
         exact ⟨b,us,t,e.trans a1,a2,(killLs_at ks g hk1 hk2 a3).more hgm,a4⟩
       · obtain ⟨us,a1,a2,a3⟩:=hkeep
         refine ⟨us,e.trans a1,a2,fun j u hu=>?_⟩
         by_cases hjk:j ∈ ks
         · exact .inr (.inr (killKs_mem (.inl hjk)))
         · rcases a3 j u hu with a4 | a4 | a4
           · exact .inl a4
           · have:=(Array.getElem?_eq_some_iff.1 hu).1
             exact .inr (.inl ((f_out j hjk (by omega)).trans a4))
           · exact .inr (.inr (killKs_mem (.inr a4)))
       · cases o with
         | dead=>exact True.intro
         | box cs=>exact absurd rfl (hnb cs)
         | kl js=>exact absurd rfl (hnf js)
         | mp kt es =>
           obtain ⟨b,l,c,a1,a2⟩:=hkeep
           exact ⟨b,l,c,e.trans a1,a2⟩
         | ob T vs =>
           obtain ⟨b,a1,a2⟩:=hkeep
           exact ⟨b,e.trans a1,a2⟩
         | it P =>
           obtain ⟨A,n',cap,F,a1,a2⟩:=hkeep
           exact ⟨A,n',cap,F,e.trans a1,a2⟩
         | row z e2 rows =>
           obtain ⟨us,a1,a2,a3,a4⟩:=hkeep
           exact ⟨us,by rw [e];exact a1,a2,a3,by rw [e];exact a4⟩
   · obtain ⟨oj,hoj,hdj⟩:=hj
     obtain ⟨ok,hok,hdk⟩:=hk
     have cross:∀ {i k:Nat} {o1:O},os2[i]? = some o1 → o1 ≠ .dead → gbl (g1 i) b → k ∉ ks → live s k → ¬ gbl (g k) b:=fun {i k o1} ho1 hd1 hb1 hin hl hb=>by
       rcases ((h1.obj i o1 ho1).blk hd1 b hb1).2 with h3 | h3
       · have h3:w.heap.size ≤ b:=h3
         have:=h.blk_lt hl hb
         omega
       · obtain ⟨k',hk',hl',hb',_⟩:=xof b h3
         exact hin (by rw [h.dis k k' b hl hl' hb hb'];exact hk')
     rcases each j oj hoj with ⟨i,o1,ho1,rfl,e,eu⟩ | ⟨hin,hlt,e,o',ho',hdd,_⟩ <;> rcases each k ok hok with ⟨i',o1',ho1',rfl,e',eu'⟩ | ⟨hin',hlt',e',o'',ho'',hdd',_⟩
     · rw [e] at hbj
       rw [e'] at hbk
       rw [eu,eu',h1.dis i i' b ⟨_,ho1,upO_dead hdj⟩ ⟨_,ho1',upO_dead hdk⟩ hbj hbk]
     · rw [e] at hbj
       rw [e'] at hbk
       exact absurd hbk (cross ho1 (upO_dead hdj) hbj hin' ⟨_,ho'',hdd' hdk⟩)
     · rw [e] at hbj
       rw [e'] at hbk
       exact absurd hbj (cross ho1' (upO_dead hdk) hbk hin ⟨_,ho',hdd hdj⟩)
     · rw [e] at hbj
       rw [e'] at hbk
       exact h.dis j k b ⟨_,ho',hdd hdj⟩ ⟨_,ho'',hdd' hdk⟩ hbj hbk
   · rw [hlen] at hk
     obtain ⟨d,rfl⟩:∃ d,k = n + d:=⟨k - n,by omega⟩
     rw [f_new]
     exact h1.out _ (by show os2.length ≤ _;omega)
   · exact ((killTs_at ks g hk1 hk2 h.tmp).more hgm).mono hII hkp

  have hpk:AtV I' w' g2 (pkg us) (pkgV (upT ks (lenO s.o) res)):=by
    have h3:AtVs I' w' g1 us res:=h1.tmp
    rw [lenO_is,← hn]
    exact pkg_at (riseT f1' h3)
  refine ⟨g2,hR,hpk,fun hstay=>?_⟩
  have hgg:∀ k,g k ≠ .nilFunc → g2 k = g k:=fun k hk=>by
    by_cases hin:k ∈ ks
    · obtain ⟨i,hi⟩:=List.mem_iff_getElem?.1 hin
      rw [f_in hi]
      exact hstay i k hi
    · rcases Nat.lt_or_ge k n with hlt | hge
      · exact f_out k hin hlt
      · exact absurd (h.out k (by omega)) hk
  have hol:ks.length ≤ (upOs ks n os2).length:=by rw [upOs_len];exact hm2
  have hkl1:∀ k ∈ ks,k < (killOs ks s.o).length:=fun k hk=>by rw [killOs_len,← hn];exact hklt k hk
  have hkl2:∀ k ∈ ks,k < s.o.length:=fun k hk=>by rw [← hn];exact hklt k hk
  have hl1:(backO ks (upOs ks n os2) s.o).length = (back ks os2 s).o.length:=by
    rw [hlen,backO_len hol,upOs_len,← hn]
  have hbk:(back ks os2 s).o = backO ks (upOs ks n os2) (killOs ks s.o):=by
    show backO ks (upOs ks (lenO s.o) os2) (killOs ks s.o) = _
    rw [lenO_is,← hn]
  have two:∀ k o,(backO ks (upOs ks n os2) s.o)[k]? = some o → (back ks os2 s).o[k]? = some o ∨ (k ∉ ks ∧ k < n ∧ s.o[k]? = some o):=fun k o hk=>by
    rw [hbk]
    by_cases hin:k ∈ ks
    · obtain ⟨i,hi⟩:=List.mem_iff_getElem?.1 hin
      rw [backO_in hnd hkl2 hol hi] at hk
      exact .inl (by rw [backO_in hnd hkl1 hol hi];exact hk)
    · rcases Nat.lt_or_ge k n with hlt | hge
      · rw [backO_in.backO_out hkl2 hol hin (by rw [← hn];exact hlt)] at hk
        exact .inr ⟨hin,hlt,hk⟩
      · obtain ⟨d,rfl⟩:∃ d,k = n + d:=⟨k - n,by omega⟩
        have e1:s.o.length + d = n + d:=by rw [← hn]
        have e2:(killOs ks s.o).length + d = n + d:=by rw [killOs_len,← hn]
        rw [← e1,backO_new hol d] at hk
        exact .inl (by rw [← e2,backO_new hol d];exact hk)
  have lv:∀ k,live ⟨s.t,backO ks (upOs ks n os2) s.o⟩ k → live (back ks os2 s) k:=fun k ⟨o,ho,hd⟩=>by
    rcases two k o ho with h3 | ⟨hin,hlt,hso⟩
    · exact ⟨o,h3,hd⟩
    · have hex:∃ o2,(killOs ks s.o)[k]? = some o2:=⟨_,List.getElem?_eq_getElem (by rw [killOs_len,← hn];exact hlt)⟩
      obtain ⟨o2,ho2⟩:=hex
      obtain ⟨o3,h4,h5,h6⟩:=killOs_get ks s.o k o2 ho2
      rw [hso] at h4
      injection h4 with h4
      subst h4
      refine ⟨o2,by rw [hbk,backO_in.backO_out hkl1 hol hin (by rw [killOs_len,← hn];exact hlt)];exact ho2,?_⟩
      rcases h6 with ⟨cs,rfl,rfl⟩ | ⟨cs,rfl,rfl⟩ | ⟨rfl,_,_⟩
      · simp
      · simp
      · exact hd
  rw [lenO_is,← hn]
  refine ⟨hR.im,hR.lt,hR.fr,hR.kp,by show w0.n ≤ (backO ks (upOs ks n os2) s.o).length;rw [hl1];exact hR.lo,hR.st,fun k o hk=>?_,fun j k b hj hk=>hR.dis j k b (lv j hj) (lv k hk),fun k hk=>hR.out k (by rw [← hl1];exact hk),(h.tmp.more hgg).mono hII hkp,h.dfr⟩
  rcases two k o hk with h3 | ⟨hin,hlt,hso⟩
  · exact hR.obj k o h3
  · by_cases hd:o = .dead
    · subst hd;exact True.intro
    have hob:=h.obj k o hso
    have nox:∀ b,gbl (g k) b → ¬ Xof (sub ks g) os' b:=fun b hb hx=>by
      obtain ⟨k',hk',hl',hb',_⟩:=xof b hx
      exact hin (by rw [h.dis k k' b ⟨_,hso,hd⟩ hl' hb hb'];exact hk')
    have hkeep:ObjAt X w0 I' w' g k o:=by
      refine hob.keep hII hkp (fun b hb=>h1.fr.block b (hob.blk hd b hb).1 (nox b hb)) fun b hb k' hk'=>?_
      rcases (h1.lt b k' hk').2 (hob.blk hd b hb).1 with h3 | h3
      · exact h3
      · exact absurd h3 (nox b hb)
    exact hkeep.more hgg
end
def noKl:List O → Bool
 | []=>true
 | .kl _ :: _=>false
 | _ :: l=>noKl l
theorem noKl_at:∀ {l:List O},noKl l = true → ∀ {i:Nat} {o:O},l[i]? = some o → ∀ js,o ≠ .kl js
 | [],_,i,o,h=>by simp at h
 | x :: l,hl,i,o,h=>by
  have hl':noKl l = true ∧ ∀ js,x ≠ .kl js:=by cases x <;> first | cases hl | exact ⟨hl,by simp⟩
  cases i with
  | zero=>simp at h;subst h;exact hl'.2
  | succ i=>exact noKl_at hl'.1 (by simpa using h)
structure KeepOk (n:Nat) (ks:List Nat) (res':List V) (os':List O) (res:List V) (s:S):Prop where
 nd:nodupN ks = true
 len:lenO os' = lenL ks
 head:headN 0 n ks = true
 args:upT ks (lenO s.o) res' = res
 objs:pick ks s.o = upOs ks (lenO s.o) os'
 low:lowT (lenL ks) res' = true
 lowo:lowO (lenL ks) os' = true
 nk:noKl os' = true
theorem headN_at:∀ {n j:Nat} {ks:List Nat},headN j n ks = true → n ≤ ks.length ∧ ∀ i,i < n → ks[i]? = some (j + i)
 | 0,j,ks,_=>⟨Nat.zero_le _,fun i hi=>absurd hi (Nat.not_lt_zero _)⟩
 | n + 1,j,[],h=>by cases h
 | n + 1,j,k :: ks,h=>by
  rw [headN] at h
  split at h
  ·rename_i e
   have e:=eqN_is.1 e
   subst e
   obtain ⟨h1,h2⟩:=headN_at h
   refine ⟨by simp;exact h1,fun i hi=>?_⟩
   cases i with
   | zero=>simp
   | succ i =>
    have:=h2 i (by omega)
    simp only [List.getElem?_cons_succ]
    rw [this]
    congr 1
    omega
  ·cases h
section
variable {I0:Nat → Nat → Prop} {X:Nat → Prop} {w0:W0} {I:Nat → Nat → Prop} {g:Nat → Value} {s:S} {a:Act} {w:World}
theorem keep_at (h:RelI I0 X w0 I g s a w) (hd0:w0.d = []) {ks:List Nat} {res' res:List V} {os':List O} {us:List Value} (hs:KeepOk w0.n ks res' os' res s) (hv:AtVs I w g us res):RelI I0 X w0 I (sub ks g) ⟨res',os'⟩ { tmps:=us.toArray,defers:=[] } w:=by
 have hl:=hs.len
 rw [lenO_is,lenL_is] at hl
 obtain ⟨hn1,hn2⟩:=headN_at hs.head
 have hg:∀ j,j < lenL ks → sub ks g j = g (upN ks (lenO s.o) j):=fun j hj=>by
  rw [lenL_is] at hj
  unfold sub
  rw [upN_lt hj]
 have hgs:∀ {i k:Nat},ks[i]? = some k → sub ks g i = g k:=fun {i k} h=>by unfold sub;rw [h]
 have hobj:∀ {i:Nat} {o:O},os'[i]? = some o → o ≠ .dead → ∃ k,ks[i]? = some k ∧ s.o[k]? = some (upO ks s.o.length o):=fun {i o} ho hd=>by
  have hlt:i < ks.length:=by rw [← hl];exact (List.getElem?_eq_some_iff.1 ho).1
  have hi:ks[i]? = some ks[i]:=List.getElem?_eq_getElem hlt
  refine ⟨_,hi,?_⟩
  have h1:=pick_get (l:=s.o) hi
  rw [hs.objs,upOs_get,ho] at h1
  have h2:=Option.some.inj h1
  rw [← lenO_is,h2]
  refine getO_some rfl ?_
  rw [← h2]
  exact upO_live hd (noKl_at hs.nk ho)
 refine ⟨h.im,h.lt,h.fr,h.kp,by show w0.n ≤ os'.length;omega,fun k hk hr=>?_,fun i o ho=>?_,fun i j b hi hj hbi hbj=>?_,fun i hi=>?_,?_,⟨hd0.symm,h.dfr.2⟩⟩
 ·have:=hn2 k hk
  rw [Nat.zero_add] at this
  rw [hgs this]
  exact h.st k hk hr
 ·have ho:os'[i]? = some o:=ho
  by_cases hd:o = .dead
  ·subst hd;exact True.intro
  obtain ⟨k,hi,hso⟩:=hobj ho hd
  have hob:=h.obj _ _ hso
  have hgi:=hgs hi
  cases o with
  | dead=>exact True.intro
  | box cs =>
   obtain ⟨b,us,t,h1,h2,h3,h4,h5,h6⟩:=hob
   exact ⟨b,us,t,by rw [hgi];exact h1,h2,downL hg (by rw [lenO_is];exact h3) (lowO_at hs.lowo ho),h4,h5,h6⟩
  | row z e rows =>
   obtain ⟨us,h1,h2,h3,h4⟩:=hob
   exact ⟨us,by rw [hgi];exact h1,h2,h3,fun b hb=>by rw [hgi] at hb;exact h4 b hb⟩
  | mp kt es =>
   obtain ⟨b,l,c,h1,h2⟩:=hob
   exact ⟨b,l,c,by rw [hgi];exact h1,h2⟩
  | ob T vs =>
   obtain ⟨b,h1,h2⟩:=hob
   exact ⟨b,by rw [hgi];exact h1,h2⟩
  | it P =>
   obtain ⟨A,n,cap,F,h1,h2⟩:=hob
   exact ⟨A,n,cap,F,by rw [hgi];exact h1,h2⟩
  | kl js=>exact absurd rfl (noKl_at hs.nk ho js)
 ·obtain ⟨oi,hoi,hdi⟩:=hi
  obtain ⟨oj,hoj,hdj⟩:=hj
  obtain ⟨ki,hi,hsi⟩:=hobj hoi hdi
  obtain ⟨kj,hj,hsj⟩:=hobj hoj hdj
  rw [hgs hi] at hbi
  rw [hgs hj] at hbj
  have:=h.dis _ _ b ⟨_,hsi,upO_live hdi (noKl_at hs.nk hoi)⟩ ⟨_,hsj,upO_live hdj (noKl_at hs.nk hoj)⟩ hbi hbj
  exact nodup_inj (nodupN_is hs.nd) hi (by rw [this];exact hj)
 ·have hi:os'.length ≤ i:=hi
  unfold sub
  rw [List.getElem?_eq_none (by omega)]
 ·show AtVs I w (sub ks g) us res'
  exact downT hg (by rw [hs.args];exact hv) hs.low
end
section
variable {I0:Nat → Nat → Prop} {X:Nat → Prop} {w0:W0} {I:Nat → Nat → Prop} {g:Nat → Value} {s:S} {a:Act} {w:World}
theorem RelI.freeze (h:RelI I0 X w0 I g s a w) (k:Nat):∃ I',RelI I0 X w0 I' g ⟨s.t,frz1 s.o k⟩ a w ∧ ∀ b n,I b n → I' b n:=by
 unfold frz1
 split
 ·rename_i z e rows hok
  have hk:=getO_some hok (by simp)
  rw [setO_is]
  obtain ⟨us,h1,h2,h3,h4⟩:=h.obj k _ hk
  have hlk:live s k:=⟨_,hk,by simp⟩
  have hlt:k < s.o.length:=(List.getElem?_eq_some_iff.1 hk).1
  have hgk:∀ {b},gbl (g k) b ↔ (g k).ownBlock = some b:=own_gblk h1
  have hkp:Keeps I w w:=Keeps.refl I w
  refine ⟨fun b n=>I b n ∨ ((g k).ownBlock = some b ∧ n ≤ rows.length * (ty e).sz),⟨fun b n hb=>.inl (h.im b n hb),fun b n hb=>?_,h.fr,h.kp,by simpa using h.lo,h.st,fun j o hj=>?_,fun i j b hi hj=>h.dis i j b (live_set hk (by simp) hi) (live_set hk (by simp) hj),fun j hj=>h.out j (by simpa using hj),h.tmp.mono (fun _ _ h=>.inl h) hkp,h.dfr⟩,fun _ _ h=>.inl h⟩
  ·rcases hb with hb | ⟨hb,_⟩
   ·exact h.lt b n hb
   ·refine ⟨(h1.lt b hb).2,fun hlt=>.inr ?_⟩
    rcases (h4 b hb).2.2 with hM | hM
    ·omega
    ·exact hM
  ·by_cases hjk:k = j
   ·subst hjk
    simp only [List.getElem?_set_self hlt] at hj
    injection hj with hj
    subst hj
    refine ⟨us,h1,h2,h3.mono (fun _ _ h=>.inl h) hkp,fun b hb=>⟨fun _=>.inr ⟨hb,Nat.le_refl _⟩,fun n hn=>⟨rfl,?_⟩,(h4 b hb).2.2⟩⟩
    rcases hn with hn | ⟨_,hn⟩
    ·exact ((h4 b hb).2.1 n hn).2
    ·exact hn
   ·simp only [List.getElem?_set_ne hjk] at hj
    by_cases hd:o = .dead
    ·subst hd;exact True.intro
    refine (h.obj j o hj).keep (fun _ _ h=>.inl h) hkp (fun _ _=>rfl) fun b hb n hn=>?_
    rcases hn with hn | ⟨hn,_⟩
    ·exact hn
    ·exact absurd (h.dis k j b hlk ⟨o,hj,hd⟩ (hgk.2 hn) hb) hjk
 ·exact ⟨I,h,fun _ _ h=>h⟩
theorem RelI.frz:∀ (ks:List Nat) {I:Nat → Nat → Prop} {s:S},RelI I0 X w0 I g s a w → ∃ I',RelI I0 X w0 I' g ⟨s.t,frz ks s.o⟩ a w ∧ ∀ b n,I b n → I' b n
 | [],I,_,h=>⟨I,h,fun _ _ h=>h⟩
 | k :: ks,_,_,h=>by
  obtain ⟨I',h',h1⟩:=h.freeze k
  obtain ⟨I2,h2,h3⟩:=RelI.frz ks h'
  exact ⟨I2,h2,fun b n hb=>h3 b n (h1 b n hb)⟩
theorem Rel.frz (h:Rel I0 X w0 s a w) (ks:List Nat):Rel I0 X w0 ⟨s.t,Vm.frz ks s.o⟩ a w:=by
 obtain ⟨I,g,h⟩:=h
 obtain ⟨I',h',_⟩:=RelI.frz ks h
 exact ⟨I',g,h'⟩
end
def Ghost (s s':S):Prop:=∀ (I0:Nat → Nat → Prop) (X:Nat → Prop) (w0:W0) (a:Act) (w:World),Rel I0 X w0 s a w → Rel I0 X w0 s' a w
def GhostF (s:S) (F:S → Prop):Prop:=∀ (I0:Nat → Nat → Prop) (X:Nat → Prop) (w0:W0) (a:Act) (w:World),Rel I0 X w0 s a w → ∃ s',F s' ∧ Rel I0 X w0 s' a w
theorem Ghost.frz (s:S) (ks:List Nat):Ghost s ⟨s.t,Vm.frz ks s.o⟩:=fun _ _ _ _ _ hr=>hr.frz ks
def SoundO (f:Nat) (vs:List V) (o:List O) (K:V → List O → List Nat → Prop):Prop:=fnOk Tryz.prog f = true ∧ ∀ (I0:Nat → Nat → Prop) (X:Nat → Prop) (w0:W0) (I:Nat → Nat → Prop) (g:Nat → Value) (t:List V) (a:Act) (w:World) (us:List Value),
 RelI I0 X w0 I g ⟨t,o⟩ a w → AtVs I w g us vs → Calls Tryz.prog f us.toArray w fun e w'=>∃ v x o' ks I' g',e = .returned v ∧ RelI I0 X w0 I' g' ⟨killTs ks t,o'⟩ a w' ∧ AtV I' w' g' v x ∧ K x o' ks
def SoundQ (f:Nat) (vs:List V) (o:List O) (x:V):Prop:=fnOk Tryz.prog f = true ∧ ∀ (I0:Nat → Nat → Prop) (X:Nat → Prop) (w0:W0) (I:Nat → Nat → Prop) (g:Nat → Value) (t:List V) (a:Act) (w:World) (us:List Value),
 RelI I0 X w0 I g ⟨t,o⟩ a w → AtVs I w g us vs → Calls Tryz.prog f us.toArray w fun e w'=>∃ v I' g',e = .returned v ∧ RelI I0 X w0 I' g' ⟨t,o⟩ a w' ∧ AtV I' w' g' v x
theorem SoundO.mono {f:Nat} {vs:List V} {o:List O} {K K':V → List O → List Nat → Prop} (h:SoundO f vs o K) (hK:∀ x o' ks,K x o' ks → K' x o' ks):SoundO f vs o K' :=
 ⟨h.1,fun I0 X w0 I g t a w us h1 h2=>(h.2 I0 X w0 I g t a w us h1 h2).mono fun e w' ⟨v,x,o',ks,I',g',e1,e2,e3,e4⟩=>⟨v,x,o',ks,I',g',e1,e2,e3,hK _ _ _ e4⟩⟩
def SoundX (f:Nat) (vs:List V) (o:List O) (K:V → List O → Prop):Prop:=fnOk Tryz.prog f = true ∧ ∀ (I0:Nat → Nat → Prop) (X:Nat → Prop) (w0:W0) (I:Nat → Nat → Prop) (g:Nat → Value) (t:List V) (a:Act) (w:World) (us:List Value),
 RelI I0 X w0 I g ⟨t,o⟩ a w → AtVs I w g us vs → Calls Tryz.prog f us.toArray w fun e w'=>∃ v x o' I' g',e = .returned v ∧ RelI I0 X w0 I' g' ⟨t,o'⟩ a w' ∧ AtV I' w' g' v x ∧ K x o'
theorem SoundX.mono {f:Nat} {vs:List V} {o:List O} {K K':V → List O → Prop} (h:SoundX f vs o K) (hK:∀ x o',K x o' → K' x o'):SoundX f vs o K' :=
 ⟨h.1,fun I0 X w0 I g t a w us h1 h2=>(h.2 I0 X w0 I g t a w us h1 h2).mono fun e w' ⟨v,x,o',I',g',e1,e2,e3,e4⟩=>⟨v,x,o',I',g',e1,e2,e3,hK _ _ e4⟩⟩
theorem SoundO.x {f:Nat} {vs:List V} {o:List O} {K:V → List O → Prop} (h:SoundO f vs o fun x o' ks=>ks = [] ∧ K x o'):SoundX f vs o K :=
 ⟨h.1,fun I0 X w0 I g t a w us h1 h2=>(h.2 I0 X w0 I g t a w us h1 h2).mono fun e w' ⟨v,x,o',ks,I',g',e1,e2,e3,e4,e5⟩=>by subst e4;exact ⟨v,x,o',I',g',e1,e2,e3,e5⟩⟩
def objOf:V → Option Nat
 | .ptr k _=>some k
 | .el k _ _ _=>some k
 | _=>none
def keepsL (l:List Nat) (t:List V) (o o':List O):Prop:=∀ i ∈ l,∀ k,objOf (getN t i) = some k → getO o' k = getO o k
def loopR (R:S → S → Prop) (body:S → (X → S → Prop) → Prop) (s:S) (K:X → S → Prop):Prop:=∃ (γ:Type) (st:γ → S) (inv:γ → Prop) (μ:γ → Nat),(∀ x,inv x → lenO s.o ≤ lenO (st x).o) ∧ (∃ x,R s (st x) ∧ inv x) ∧ ∀ x,inv x → body (st x) (fun e s=>roundX (fun s2=>∃ y,inv y ∧ μ y < μ x ∧ R s2 (st y)) K e s)
def GhostN (n:Nat) (s s':S):Prop:=∀ (I0:Nat → Nat → Prop) (X:Nat → Prop) (w0:W0) (a:Act) (w:World),w0.n ≤ n → Rel I0 X w0 s a w → Rel I0 X w0 s' a w
def FW (ro:Option Nat):Fence:={ Fence.wide with round:=ro }
def real:Ar where
 wrap:=IntKind.wrap
 add x y:=x + y
 sub x y:=x - y
 mul x y:=x * y
 quo x y:=x.tdiv y
 rem x y:=x.tmod y
 bits:=bitsI
 lt x y:=decide (x < y)
 le x y:=decide (x ≤ y)
 eq x y:=x == y
 nz y k:=y ≠ 0 ∧ k
 seq x y:=x == y
 slt x y:=Op.bytesLess x y
 bytes b:=b.toList
 cat x y:=x ++ y
 fits x y k:=x.size + y.size ≤ 4611686018427387904 ∧ k
 slen b:=(b.size:Int)
 sget b n:=if 0 ≤ n then (b[n.toNat]?).map fun c=>(c.toNat:Int) else none
 ssub b l h:=if 0 ≤ l ∧ l ≤ h ∧ h ≤ b.size then some (b.extract l.toNat h.toNat) else none
 txt:=bytesOf
 byt:=rowsB
 nat n m:=if 0 ≤ n ∧ n < m then some n.toNat else none
 len rows:=(rows.length:Int)
 get rows n:=if 0 ≤ n then rows[n.toNat]? else none
 sub2 rows l h:=if 0 ≤ l ∧ l ≤ h ∧ h ≤ rows.length then some ((rows.drop l.toNat).take (h.toNat - l.toNat)) else none
 app xs ys:=xs ++ ys
 set xs n y:=xs.set n.toNat y
 room xs ys k:=xs.length + ys.length ≤ 137438953472 ∧ k
 mlook:=mget
 mput:=mset
 deq x y:=dsEq y x
 rep n z k:=(0 ≤ n ∧ n ≤ 16777216 ∧ n.toNat * z.length ≤ 16777216) ∧ k (List.replicate n.toNat z)
 call f rs K:=∃ q,Spec f rs q ∧ K q
 calld f vs o K:=∃ x,SoundQ f vs o x ∧ K x
 callo f vs s K:=SoundO f vs s.o fun v o' ks=>K v ⟨killTs ks s.t,o'⟩
 callx f vs l s K:=SoundX f vs s.o fun v o'=>keepsL l s.t s.o o' ∧ K v ⟨s.t,o'⟩
 lit _ K:=∃ c,K c
 keep n Q res s:=∃ ks res' os',KeepOk n ks res' os' res s ∧ Q res' os'
 new _ K:=∃ z,K z
 next N s:=∃ F:S → Prop,GhostF s F ∧ ∀ s',F s' → N s'
 reg ops s K:=∀ (I0:Nat → Nat → Prop) (X:Nat → Prop) (w0:W0) (a:Act) (w:World) (ro:Option Nat) (n:Nat) (Q:Exit → Act → World → Prop),(∀ o ∈ ops.toList,okOp Tryz.prog o.op = true) → Rel I0 X w0 s a w → (∀ s' a' w',Rel I0 X w0 s' a' w' → K s' → Q .normal a' w') → wpAnyIn (FW ro) n Tryz.prog .any ops Q ops.size (Array.replicate ops.size false) a w
 ext op dst s K:=∀ (I0:Nat → Nat → Prop) (X:Nat → Prop) (w0:W0) (a:Act) (w:World) (o:Oper) (Q:Exit → Act → World → Prop),o.op = op → o.dst = dst → okOp Tryz.prog op = true → Rel I0 X w0 s a w → o.wp Tryz.prog a w (fun a' w'=>∃ s',Rel I0 X w0 s' a' w' ∧ K s') Q
 loop _ body s K:=loopR weak body s K ∨ loopR Eq body s K ∨ loopR (GhostN (lenO s.o)) body s K
theorem sound_spec {f:Nat} {vs:List V} {o:List O} {rs q:List R} (h:Spec f rs q) (hr:toRs o vs = some rs):SoundO f vs o fun x o' ks=>x = resV q ∧ o' = o ∧ ks = [] :=
 ⟨h.1,fun I0 X w0 I g t a w us hrel hv=>by
  refine (h.2 I w us hrel.wld (toRs_at hrel hv hr)).mono ?_
  rintro e w' ⟨v,rfl,hres,hbel⟩
  exact ⟨v,_,o,[],_,g,rfl,hrel.grow hbel (I':=nxt I w w') (fun _ _ h=>.inl h) (fun _ _ h=>h),resV_at g hres,rfl,rfl,rfl⟩⟩
def SpecS (f:Nat) (vs:List V) (os:List O) (Q:List V → List O → Prop):Prop:=fnOk Tryz.prog f = true ∧ ∀ (I:Nat → Nat → Prop) (w:World) (g:Nat → Value) (args:List Value),
 RelI I (Xof g os) ⟨w,g,os.length,[]⟩ I g ⟨vs,os⟩ { tmps:=args.toArray,defers:=[] } w →
 Calls Tryz.prog f args.toArray w fun e w'=>∃ us res os2 I' g',e = .returned (pkg us) ∧ (Q res os2 ∧ ∀ i,i < os.length → g' i = g i) ∧ RelI I (Xof g os) ⟨w,g,os.length,[]⟩ I' g' ⟨res,os2⟩ { tmps:=us.toArray,defers:=[] } w'
theorem sound_specs {f:Nat} {vs vs':List V} {os':List O} {s:S} {ks:List Nat} {Q:List V → List O → Prop} (h:SpecS f vs' os' Q) (hs:SubOk ks vs' os' vs s):SoundO f vs s.o fun x o' ks'=>ks' = [] ∧ ∃ res os2,Q res os2 ∧ x = pkgV (upT ks (lenO s.o) res) ∧ o' = backO ks (upOs ks (lenO s.o) os2) s.o :=
 ⟨h.1,fun I0 X w0 I g t a w us hrel hv=>by
  have hs':SubOk ks vs' os' vs ⟨t,s.o⟩:=⟨hs.nd,hs.len,hs.args,hs.objs,hs.al,hs.low,hs.lowo⟩
  refine (h.2 I w (sub ks g) us (sub_at hrel hs' hv)).mono ?_
  rintro e w' ⟨us2,res,os2,I',g1,rfl,⟨hQ,hst⟩,h1⟩
  obtain ⟨g2,-,h3,h4⟩:=called hrel hs' h1
  have hm:=hs.len
  rw [lenO_is,lenL_is] at hm
  exact ⟨_,_,_,[],I',g2,rfl,h4 fun i k hi=>by
   have hlt:=(List.getElem?_eq_some_iff.1 hi).1
   rw [hst i (by omega)]
   unfold sub
   rw [hi],h3,rfl,res,os2,hQ,rfl,rfl⟩⟩
theorem sound_speco {f:Nat} {vs vs':List V} {os':List O} {s:S} {ks:List Nat} {Q:List V → List O → Prop} (h:SpecO f vs' os' Q) (hs:SubOk ks vs' os' vs s):SoundO f vs s.o fun x o' ks'=>ks' = ks ∧ ∃ res os2,Q res os2 ∧ x = pkgV (upT ks (lenO s.o) res) ∧ o' = backO ks (upOs ks (lenO s.o) os2) (killOs ks s.o) :=
 ⟨h.1,fun I0 X w0 I g t a w us hrel hv=>by
  have hs':SubOk ks vs' os' vs ⟨t,s.o⟩:=⟨hs.nd,hs.len,hs.args,hs.objs,hs.al,hs.low,hs.lowo⟩
  refine (h.2 I w (sub ks g) us (sub_at hrel hs' hv)).mono ?_
  rintro e w' ⟨us2,res,os2,I',g1,rfl,hQ,h1⟩
  obtain ⟨g2,h2,h3,-⟩:=called hrel hs' h1
  exact ⟨_,_,_,ks,I',g2,rfl,h2,h3,rfl,res,os2,hQ,rfl,rfl⟩⟩
end
section
section
variable {I0:Nat → Nat → Prop} {X:Nat → Prop} {w0:W0} {I:Nat → Nat → Prop} {g:Nat → Value} {s:S} {a:Act} {w:World}
theorem one1_at {v:Value} {x:V} (h:AtV I w g v x) (h1:one1 x = true):v.oneCell' = true:=by
 cases h with
 | d h=>exact h.one
 | ag=>cases h1
 | tu=>cases h1
 | em=>rfl
 | own=>rfl
 | ptr=>rfl
 | cl=>rfl
 | el=>rfl
 | ro=>rfl
 | mp=>rfl
 | bs=>rfl
 | jk=>cases h1
theorem ones_at:∀ {l:List V} {us:List Value},AtVs I w g us l → ones l = true → ∀ u ∈ us,u.oneCell' = true
 | [],us,h,_=>by rw [h.unnil];simp
 | x :: l,us,h,h1=>by
  obtain ⟨u,us',rfl,h2,h3⟩:=h.uncons
  rw [ones] at h1
  split at h1
  ·rename_i hx
   intro y hy
   rcases List.mem_cons.1 hy with rfl | hy
   ·exact one1_at h2 hx
   ·exact ones_at h3 h1 y hy
  ·cases h1
theorem cells_at {v:Value} {x:V} {cs:List V} (h:AtV I w g v x) (hc:cellsV x = some cs):∃ us,v.cells = us.toArray ∧ AtVs I w g us cs ∧ ∀ u ∈ us,u.oneCell' = true:=by
 have single:one1 x = true → cs = [x] → ∃ us,v.cells = us.toArray ∧ AtVs I w g us cs ∧ ∀ u ∈ us,u.oneCell' = true:=fun h1 e=>by
  subst e
  have hv:=one1_at h h1
  refine ⟨[v],?_,.cons h (.nil I w g),fun u hu=>by simp at hu;subst hu;exact hv⟩
  cases v <;> first | rfl | cases hv
 cases x with
 | ag l =>
  rw [cellsV] at hc
  split at hc
  ·rename_i h1
   injection hc with hc
   subst hc
   obtain ⟨us,rfl,h2⟩:=h.unag
   exact ⟨us,rfl,h2,ones_at h2 h1⟩
  ·cases hc
 | jk=>cases hc
 | tu l=>cases hc
 | d x=>injection hc with hc;exact single rfl hc.symm
 | em=>injection hc with hc;exact single rfl hc.symm
 | bs k n=>injection hc with hc;exact single rfl hc.symm
 | own k=>injection hc with hc;exact single rfl hc.symm
 | ptr k off=>injection hc with hc;exact single rfl hc.symm
 | cl f ks=>injection hc with hc;exact single rfl hc.symm
 | el k i sz off=>injection hc with hc;exact single rfl hc.symm
 | ro l off=>injection hc with hc;exact single rfl hc.symm
 | mp k=>injection hc with hc;exact single rfl hc.symm
def Yld (I0:Nat → Nat → Prop) (X:Nat → Prop) (w0:W0) (g:Nat → Value) (s:S) (a:Act) (w:World) (m:Sem Value) (K:V → Prop):Prop:=∃ v x w' I',m.run Tryz.prog w = .ok v w' ∧ RelI I0 X w0 I' g s a w' ∧ AtV I' w' g v x ∧ K x
theorem yld {m:Sem Value} {K:V → Prop} (h:RelI I0 X w0 I g s a w) {v:Value} {x:V} (hm:m.run Tryz.prog w = .ok v w) (hv:AtV I w g v x) (hK:K x):Yld I0 X w0 g s a w m K:=⟨v,x,w,I,hm,h,hv,hK⟩
theorem atb (b:Bool):AtV I w g (.bool b) (vb b):=.d (.sc _ rfl)
theorem ati (k:IntKind) (n:Int):AtV I w g (.int k n) (vi k n):=.d (.sc _ rfl)
theorem ats (b:ByteArray):AtV I w g (.string b) (vs b):=.d (.sc _ rfl)
theorem AtV.sc {v u:Value} (h:AtV I w g v (.d (.sc u))):v = u:=by cases h with | d h=>cases h;rfl
theorem get_is {rows:List (List D)} {i:Int} {row:List D} (h:real.get rows i = some row):0 ≤ i ∧ rows[i.toNat]? = some row:=by
 simp only [real] at h
 split at h
 ·exact ⟨by assumption,h⟩
 ·cases h
theorem load_same (h:RelI I0 X w0 I g s a w) {K:V → Prop} {t:Nat} (ht:tyKnown t = true) {v:Value} {x:V} (hv:AtV I w g v x) (hK:loadV real s.o K t x):∃ u y,(Instr.loadAt t v).run Tryz.prog w = .ok u w ∧ AtV I w g u y ∧ K y:=by
 cases x <;> try exact hK.elim
 case ptr k off =>
  simp only [loadV] at hK
  split at hK <;> try exact hK.elim
  rename_i cs ho
  split at hK <;> try exact hK.elim
  rename_i l hl
  split at hK <;> try exact hK.elim
  rename_i x hx
  obtain ⟨b,us,t',h1,h2,h3,_⟩:=h.obj k _ (getO_some ho (by simp))
  cases hv with
  | ptr k off b' hg =>
   rw [h1] at hg
   injection hg with hg
   injection hg with hg
   injection hg with hg
   subst hg
   rw [dropN_is] at hl
   obtain ⟨e,he⟩:=takeN_is hl
   have hu:AtVs I w g ((us.drop off).take (ty t).sz) l:=by rw [e];exact (h3.drop off).take _
   obtain ⟨v,h4,h5⟩:=load_at (w:=w) (b:=b) (p:=off) ht (by rw [hu.1,he]) (fun j u hj=>by
    rw [List.getElem?_take] at hj
    split at hj
    ·rw [List.getElem?_drop] at hj
     rw [cell_of_row w b (off + j) (us ++ t'.2).toArray t'.1 (0,0) h2]
     have hlt:=(List.getElem?_eq_some_iff.1 hj).1
     simp only [List.getElem?_toArray]
     rw [List.getElem?_append_left hlt]
     exact hj
    ·cases hj) hu hx
   exact ⟨v,x,h4,h5,hK⟩
 case ro cs off =>
  simp only [loadV] at hK
  split at hK <;> try exact hK.elim
  rename_i l hl
  split at hK <;> try exact hK.elim
  rename_i x hx
  cases hv with
  | ro b o off us cs hI hc hd =>
   rw [dropN_is] at hl
   obtain ⟨e,he⟩:=takeN_is hl
   have hu:AtDs I w ((us.drop off).take (ty t).sz) l:=by rw [e];exact (hd.drop off).take _
   obtain ⟨v,h4,h5⟩:=load_at (w:=w) (b:=b) (p:=o + off) ht (by rw [hu.1,he]) (fun j u hj=>by
    rw [List.getElem?_take] at hj
    split at hj
    ·rw [List.getElem?_drop] at hj
     rw [Nat.add_assoc]
     exact hc _ _ hj
    ·cases hj) (hu.toV g) hx
   exact ⟨v,x,h4,h5,hK⟩
 case el k i sz off =>
  simp only [loadV] at hK
  split at hK <;> try exact hK.elim
  rename_i z e rows ho
  split at hK <;> try exact hK.elim
  rename_i hsz
  rw [eqN_is] at hsz
  split at hK <;> try exact hK.elim
  rename_i row hrow
  split at hK <;> try exact hK.elim
  rename_i l hl
  split at hK <;> try exact hK.elim
  rename_i x hx
  obtain ⟨us,h1,h2,h3,_⟩:=h.obj k _ (getO_some ho (by simp))
  have hrow':=get_is hrow
  cases hv with
  | el k i sz off b n cap hg =>
   rw [hg] at h1
   obtain ⟨A',cap',e0⟩:=own_slice h1
   injection e0 with _ e0 _
   subst e0
   rw [dropN_is] at hl
   obtain ⟨e1,he⟩:=takeN_is hl
   have hrl:=h2 _ (List.mem_of_getElem? hrow'.2)
   have hlt:i.toNat < rows.length:=(List.getElem?_eq_some_iff.1 hrow'.2).1
   have hfit:off + (ty t).sz ≤ (ty e).sz ∨ (ty t).sz = 0:=by
    rw [e1,List.length_take,List.length_drop,hrl] at he
    omega
   have hsub:i.toNat * (ty e).sz + (ty e).sz ≤ rows.length * (ty e).sz:=by rw [← Nat.succ_mul];exact Nat.mul_le_mul_right _ hlt
   rw [← hsz]
   have hu:AtDs I w ((us.drop (i.toNat * (ty e).sz + off)).take (ty t).sz) l:=by
    refine ⟨by rw [List.length_take,List.length_drop,h1.1,he];omega,fun j u d hj hd=>?_⟩
    rw [List.getElem?_take] at hj
    split at hj
    ·rename_i hjl
     rw [List.getElem?_drop,Nat.add_assoc] at hj
     refine h3.2 _ _ _ hj ?_
     rw [flat_get h2 hrow'.2 (by omega)]
     rw [e1,List.getElem?_take,if_pos hjl,List.getElem?_drop] at hd
     exact hd
    ·cases hj
   obtain ⟨v,h4,h5⟩:=load_at (w:=w) (b:=b) (p:=i.toNat * (ty e).sz + off) ht (by rw [hu.1,he]) (fun j u hj=>by
    rw [List.getElem?_take] at hj
    split at hj
    ·rename_i hjl
     rw [List.getElem?_drop] at hj
     have hin:i.toNat * (ty e).sz + off + j < rows.length * (ty e).sz:=by omega
     rw [World.ownsRow.cellAt h1 _ hin]
     exact hj
    ·cases hj) (hu.toV g) hx
   exact ⟨v,x,h4,h5,hK⟩
theorem load_ok (h:RelI I0 X w0 I g s a w) {K:V → Prop} {t:Nat} (ht:tyKnown t = true) {v:Value} {x:V} (hv:AtV I w g v x) (hK:loadV real s.o K t x):Yld I0 X w0 g s a w (Instr.loadAt t v) K:=by
 obtain ⟨u,y,h1,h2,h3⟩:=load_same h ht hv hK
 exact yld h h1 h2 h3
theorem field_ok (h:RelI I0 X w0 I g s a w) {K:V → Prop} {t i:Nat} (ht:tyKnown t = true) {v:Value} {x:V} (hv:AtV I w g v x) (hK:fieldV K t i x):Yld I0 X w0 g s a w (Instr.fieldAt t v i) K:=by
 simp only [fieldV] at hK
 split at hK <;> try exact hK.elim
 rename_i off sz hf
 obtain ⟨fs,f,h1,h2,h3,h4,_⟩:=ty_fld ht (take1_is hf)
 have hs:(sizeOf f.type).run Tryz.prog w = .ok (sz + 1) w:=by
  cases hi:Tryz.prog.info? f.type with
  | none=>rw [hi] at h4;cases h4
  | some i=>rw [hi] at h4;simp only [Option.map_some,Option.some.injEq] at h4;simp [sizeOf,typeInfo,hi,h4]
 have key:∀ b p,(Instr.fieldAt t (.pointer (some ⟨b,p,none⟩)) i).run Tryz.prog w = .ok (.pointer (some ⟨b,p + off,none⟩)) w:=fun b p=>by
  simp [Instr.fieldAt,run_underlying h1,h2,Instr.sureAddr,fieldPlace,hs,Addr.add_lit,h3]
 cases x <;> try exact hK.elim
 case ptr k o =>
  cases hv with
  | ptr k o b hg=>exact yld h (key b o) (.ptr k (o + off) b hg) hK
 case el k i sz o =>
  cases hv with
  | el k i sz o b n cap hg=>exact yld h (key b _) (by rw [Nat.add_assoc];exact .el k i sz (o + off) b n cap hg) hK
 case ro cs o =>
  cases hv with
  | ro b o' off' us cs hI hc hd=>exact yld h (key b _) (by rw [Nat.add_assoc];exact .ro b o' (o + off) us cs hI hc hd) hK
theorem part_ok (h:RelI I0 X w0 I g s a w) {K:V → Prop} {t i:Nat} (ht:tyKnown t = true) (hty:∀ u,(ty t).fty[i]? = some u → tyKnown u = true) {v:Value} {x:V} (hv:AtV I w g v x) (hK:partV K t i x):Yld I0 X w0 g s a w (Instr.field t v i) K:=by
 simp only [partV] at hK
 split at hK <;> try exact hK.elim
 rename_i u off sz cs hu hf
 split at hK <;> try exact hK.elim
 rename_i l hl
 split at hK <;> try exact hK.elim
 rename_i y hy
 obtain ⟨fs,f,h1,h2,h3,h4,h5,_⟩:=ty_fld ht (take1_is hf)
 have h6:=take1_is hu
 rw [h5] at h6
 injection h6 with h6
 subst h6
 have hku:=hty _ h5
 obtain ⟨us,rfl,h7⟩:=hv.unag
 rw [dropN_is] at hl
 obtain ⟨e,he⟩:=takeN_is hl
 have hul:AtVs I w g ((us.drop off).take (ty f.type).sz) l:=by rw [e];exact (h7.drop off).take _
 obtain ⟨hx,hone⟩:=pack_at hul hy
 refine yld h ?_ hx hK
 simp only [Instr.field,Sem.run_bind,run_underlying h1,Result.andThen_ok,h2,asAgg,Sem.run_pure,part,ty_agg hku,h3]
 cases hag:(ty f.type).agg with
 | true =>
  have hsz:=ty_size hku w
  simp [hsz]
 | false =>
  have hlen:=hone hag
  simp only [Bool.false_eq_true,if_false]
  have hlt:off < us.length:=by
   rw [List.length_take,List.length_drop] at hlen
   omega
  have:us.toArray[off]? = some (((us.drop off).take (ty f.type).sz).getD 0 undef):=by
   simp only [List.getElem?_toArray,List.getD_eq_getElem?_getD,List.getElem?_take,List.getElem?_drop,Nat.add_zero]
   have hsz:0 < (ty f.type).sz:=by rw [List.length_take] at hlen;omega
   rw [if_pos hsz,List.getElem?_eq_getElem hlt]
   rfl
  rw [this]
  rfl
theorem rows_at (h:RelI I0 X w0 I g s a w) {v:Value} {x:V} {o:Option Nat} {rows:List (List D)} (hv:AtV I w g v x) (hr:rowsV s.o x = some (o,rows)):AtD I w v (.sl (o.getD 0) rows) ∧ (o = none → rows = []):=by
 cases x with
 | d x =>
  cases x with
  | sc u=>simp [rowsV] at hr
  | sl sz rows' =>
   simp only [rowsV,Option.some.injEq,Prod.mk.injEq] at hr
   obtain ⟨rfl,rfl⟩:=hr
   cases hv with
   | d h=>exact ⟨h,by simp⟩
 | em =>
  simp only [rowsV,Option.some.injEq,Prod.mk.injEq] at hr
  obtain ⟨rfl,rfl⟩:=hr
  cases hv
  exact ⟨.nil _ _ _,fun _=>rfl⟩
 | own k =>
  have hr':=hr
  simp only [rowsV] at hr
  split at hr
  ·rename_i e rows' ho
   simp only [Option.some.injEq,Prod.mk.injEq] at hr
   obtain ⟨rfl,rfl⟩:=hr
   refine ⟨toD_at h hv ?_,by simp⟩
   simp only [toD,ho]
   rfl
  ·cases hr
 | ag cs=>simp [rowsV] at hr
 | tu cs=>simp [rowsV] at hr
 | ptr k off=>simp [rowsV] at hr
 | cl f ks=>simp [rowsV] at hr
 | el k i sz off=>simp [rowsV] at hr
 | ro cs off=>simp [rowsV] at hr
 | mp k=>simp [rowsV] at hr
 | bs k n=>simp [rowsV] at hr
 | jk=>simp [rowsV] at hr
theorem szOk_at {sz:Nat} {o:Option Nat} {v:Value} {rows:List (List D)} (hs:szOk sz o = true) (h:AtD I w v (.sl (o.getD 0) rows)) (hn:o = none → rows = []):AtD I w v (.sl sz rows):=by
 cases o with
 | none =>
  rw [hn rfl] at h ⊢
  obtain ⟨A,cap,rfl,-⟩:=h.slice
  exact .nil _ _ _
 | some n =>
  rw [szOk,eqN_is] at hs
  subst hs
  exact h
theorem index_ok (h:RelI I0 X w0 I g s a w) {K:V → Prop} {t:Nat} (ht:tyKnown t = true) (hte:∀ e,(ty t).elem = some e → tyKnown e = true) (htv:(ty t).kind = .array → ∀ e,(ty t).val = some e → tyKnown e = true) {v u:Value} {x i:V} (hv:AtV I w g v x) (hu:AtV I w g u i) (hK:indexAddrV real s.o K t x i):Yld I0 X w0 g s a w (Instr.indexAt t v u) K:=by
 simp only [indexAddrV] at hK
 split at hK <;> try exact hK.elim
 rename_i k n
 split at hK
 ·rename_i hkd
  split at hK <;> try exact hK.elim
  rename_i e he
  split at hK <;> try exact hK.elim
  rename_i j hj
  have hun:=ty_array ht hkd he
  have hu':=hu.sc
  subst hu'
  have hn:(0 ≤ n ∧ n < ((ty t).alen:Int)) ∧ n.toNat = j:=by
   simp only [real] at hj
   split at hj
   ·rename_i h1;injection hj with hj;exact ⟨h1,hj⟩
   ·cases hj
  obtain ⟨hn,rfl⟩:=hn
  have key:∀ b p,(Instr.indexAt t (.pointer (some ⟨b,p,none⟩)) (.int k n)).run Tryz.prog w = .ok (.pointer (some ⟨b,p + n.toNat * (ty e).sz,none⟩)) w:=fun b p=>by
   simp [Instr.indexAt,asIntOf,run_underlying hun,hn,Instr.sureAddr,ty_size (htv hkd e he),Addr.add_lit]
  cases x <;> try exact hK.elim
  case ptr k' o =>
   cases hv with
   | ptr k' o b hg=>exact yld h (key b o) (.ptr k' _ b hg) hK
  case el k' i sz o =>
   cases hv with
   | el k' i sz o b n' cap hg=>exact yld h (key b _) (by rw [Nat.add_assoc];exact .el k' i sz _ b n' cap hg) hK
  case ro cs o =>
   cases hv with
   | ro b o' off' us cs hI hc hd=>exact yld h (key b _) (by rw [Nat.add_assoc];exact .ro b o' _ us cs hI hc hd) hK
 split at hK <;> try exact hK.elim
 rename_i e he
 split at hK
 ·rename_i k' m hbs
  split at hK <;> try exact hK.elim
  rename_i j hj
  have hx:x = .bs k' m:=by
   unfold bsV at hbs
   split at hbs
   ·injection hbs with hbs
    injection hbs with e1 e2
    rw [e1,e2]
   ·cases hbs
  subst hx
  obtain ⟨b,cap,hg,rfl,hle⟩:=hv.unbs
  have hu':=hu.sc
  subst hu'
  have hn:(0 ≤ n ∧ n < (m:Int)) ∧ n.toNat = j:=by
   simp only [real] at hj
   split at hj
   ·rename_i h1;injection hj with hj;exact ⟨h1,hj⟩
   ·cases hj
  obtain ⟨hn,rfl⟩:=hn
  have hun:=ty_slice ht he
  refine yld h (v:=.pointer (some ⟨b,n.toNat * (ty e).sz,none⟩)) ?_ (.ptr k' _ b hg) hK
  simp [Instr.indexAt,asIntOf,run_underlying hun,hn,ty_size (hte e he),Addr.add_lit]
 split at hK
 ·rename_i k' e' rows hr
  split at hK <;> try exact hK.elim
  rename_i hee
  rw [eqN_is] at hee
  subst hee
  split at hK <;> try exact hK.elim
  rename_i row hrow
  have hrow':=get_is hrow
  have hu':=hu.sc
  subst hu'
  unfold rawV at hr
  split at hr <;> try cases hr
  rename_i k1
  split at hr <;> cases hr
  rename_i ho
  obtain ⟨us,h1,h2,h3,_⟩:=h.obj k' _ (getO_some ho (by simp))
  obtain ⟨rfl,A,m,cap,hg⟩:=hv.unown
  rw [own_gv h1] at hg ⊢
  have hlt:n.toNat < rows.length:=(List.getElem?_eq_some_iff.1 hrow'.2).1
  have hn:0 ≤ n ∧ n < (rows.length:Int):=⟨hrow'.1,by omega⟩
  have hun:=ty_slice ht he
  rcases h1.2 with ⟨_,e2⟩ | ⟨b,cap',cur,e1,_⟩
  ·omega
  ·refine yld h (v:=.pointer (some ⟨b,n.toNat * (ty e').sz + 0,none⟩)) ?_ (.el k' n (ty e').sz 0 b _ cap' e1) hK
   rw [e1]
   simp [Instr.indexAt,asIntOf,run_underlying hun,hn,ty_size (hte e' he),Addr.add_lit]
 split at hK <;> try exact hK.elim
 rename_i sz rows hr
 split at hK <;> try exact hK.elim
 rename_i hsz
 rw [eqN_is] at hsz
 subst hsz
 split at hK <;> try exact hK.elim
 rename_i row hrow
 obtain ⟨h1,_⟩:=rows_at h hv hr
 simp only [Option.getD_some] at h1
 have hrow':0 ≤ n ∧ rows[n.toNat]? = some row:=by
  simp only [real] at hrow
  split at hrow
  ·exact ⟨by assumption,hrow⟩
  ·cases hrow
 have hu':=hu.sc
 subst hu'
 have hlt:n.toNat < rows.length:=(List.getElem?_eq_some_iff.1 hrow'.2).1
 obtain ⟨A,cap,rfl,hcap,h2⟩:=h1.slice
 rcases h2 with rfl | ⟨b,off,us,rfl,hI,hrl,hl,hc,hd⟩
 ·simp at hlt
 ·have hn:0 ≤ n ∧ n < (rows.length:Int):=⟨hrow'.1,by omega⟩
  have hun:=ty_slice ht he
  have hrsz:=hrl _ (List.mem_of_getElem? hrow'.2)
  refine yld h (v:=.pointer (some ⟨b,off + n.toNat * (ty e).sz,none⟩)) ?_ (.ro b (off + n.toNat * (ty e).sz) 0 ((us.drop (n.toNat * (ty e).sz)).take (ty e).sz) row ?_ (fun j y hy=>?_) ⟨?_,fun j y d hy hdj=>?_⟩) hK
  ·simp [Instr.indexAt,asIntOf,run_underlying hun,hn,ty_size (hte e he),Addr.add_lit]
  ·refine hI.down ?_
   rw [hrsz]
   have:n.toNat * (ty e).sz + (ty e).sz ≤ rows.length * (ty e).sz:=by rw [← Nat.succ_mul];exact Nat.mul_le_mul_right _ hlt
   omega
  ·rw [List.getElem?_take] at hy
   split at hy
   ·rw [List.getElem?_drop] at hy
    rw [Nat.add_assoc]
    exact hc _ _ hy
   ·cases hy
  ·rw [List.length_take,List.length_drop,hl,hrsz]
   have:n.toNat * (ty e).sz + (ty e).sz ≤ rows.length * (ty e).sz:=by rw [← Nat.succ_mul];exact Nat.mul_le_mul_right _ hlt
   omega
  ·rw [List.getElem?_take] at hy
   split at hy
   ·rename_i hj
    rw [List.getElem?_drop] at hy
    exact hd.2 _ _ _ hy (by rw [flat_get hrl hrow'.2 hj];exact hdj)
   ·cases hy
end
end
section
theorem keq_is {j k:IntKind} (h:keq j k = true):j = k:=by cases j <;> cases k <;> first | rfl | cases h
theorem bEq_is (b c:Bool):bEq b c = (b == c):=by cases b <;> cases c <;> rfl
theorem ty_noagg {t:Nat} (h:tyKnown t = true) {d:TypeDesc} (hu:Tryz.prog.underlying t = some d) (hd:aggOf (some d) = some false):(ty t).agg = false:=by
 have:=(tyOk t h).agg
 rw [hu,hd] at this
 exact (Option.some.inj this).symm
def dVal:D → Value
 | .sc v=>v
 | .sl _ _=>.nilFunc
def rVal:R → Value
 | .one d=>dVal d
 | .ag ds=>.agg (ds.map dVal).toArray
theorem scalar_sc {k:TK} {d:D} (h:scalarB k d = true):∃ v,d = .sc v:=by
 cases d with
 | sc v=>exact ⟨v,rfl⟩
 | sl sz rows=>cases k <;> cases h
theorem scalars_sc:∀ {us:List Nat} {fs:List (Nat × Nat)} {n:Nat} {ds:List D},scalarsB us fs n ds = true → ∀ d ∈ ds,∃ v,d = .sc v
 | [],[],n,[],_=>by simp
 | u :: us,(off,1) :: fs,n,d :: ds,h=>by
  rw [scalarsB] at h
  split at h
  ·split at h
   ·rename_i h1
    intro x hx
    rcases List.mem_cons.1 hx with rfl | hx
    ·exact scalar_sc h1
    ·exact scalars_sc h x hx
   ·cases h
  ·cases h
theorem key_sc {t:Nat} {r:R} (h:keyB t r = true):(∃ v,r = .one (.sc v)) ∨ ∃ ds,r = .ag ds ∧ ∀ d ∈ ds,∃ v,d = .sc v:=by
 cases r with
 | one d=>obtain ⟨v,rfl⟩:=scalar_sc h;exact .inl ⟨v,rfl⟩
 | ag ds =>
  rw [keyB] at h
  split at h
  ·split at h
   ·exact .inr ⟨ds,rfl,scalars_sc h⟩
   ·cases h
  ·cases h
section
variable {I:Nat → Nat → Prop} {w:World}
theorem AtD.val {v:Value} {u:Value} (h:AtD I w v (.sc u)):v = u:=by cases h;rfl
theorem key_val {t:Nat} {v:Value} {r:R} (h:AtR I w v r) (hk:keyB t r = true):v = rVal r:=by
 rcases key_sc hk with ⟨u,rfl⟩ | ⟨ds,rfl,hs⟩
 ·exact AtD.val h
 ·obtain ⟨us,rfl,hl,hd⟩:=h
  have:us = ds.map dVal:=by
   refine List.ext_getElem? fun i=>?_
   rw [List.getElem?_map]
   cases hi:ds[i]? with
   | none =>
    rw [List.getElem?_eq_none_iff] at hi
    rw [List.getElem?_eq_none (by omega)]
    rfl
   | some d =>
    have hlt:i < us.length:=by rw [hl];exact (List.getElem?_eq_some_iff.1 hi).1
    obtain ⟨u,rfl⟩:=hs d (List.mem_of_getElem? hi)
    rw [List.getElem?_eq_getElem hlt]
    exact congrArg some (hd i _ _ (List.getElem?_eq_getElem hlt) hi).val
  rw [this]
  rfl
end
theorem natEq_is (m n:Nat):natEq m n = (m == n):=by
 rw [Bool.eq_iff_iff,beq_iff_eq]
 exact ⟨Nat.eq_of_beq_eq_true,fun h=>by rw [h];exact Nat.beq_refl n⟩
theorem intEq_is (m n:Int):intEq m n = (m == n):=by
 rw [Bool.eq_iff_iff,beq_iff_eq]
 cases m <;> cases n <;> simp [intEq,natEq_is]
 exact Int.ofNat_inj.symm
theorem bytesEq_is:∀ x y:List UInt8,bytesEq x y = (x == y)
 | [],[]=>rfl
 | [],_ :: _=>rfl
 | _ :: _,[]=>rfl
 | x :: l,y :: m=>by
  rw [bytesEq,natEq_is,bytesEq_is l m]
  by_cases h:x = y
  ·subst h;simp
  ·have h1:(x.toNat == y.toNat) = false:=beq_eq_false_iff_ne.2 fun e=>h (UInt8.toNat_inj.1 e)
   have h2:(x :: l == y :: m) = false:=beq_eq_false_iff_ne.2 fun e=>h (by injection e)
   rw [h1,h2]
theorem bytes_eq (x y:ByteArray):(x == y) = (x.data.toList == y.data.toList):=by
 rw [beq_toListBytes,ByteArray.toList_eq,ByteArray.toList_eq]
structure ScalOk (t:Nat) (x y:D) (d:TypeDesc):Prop where
 un:Tryz.prog.underlying t = some d
 ag:aggOf (some d) = some false
 now:Instr.sameNow d (dVal x) (dVal y) = some (dEq y x)
 eq:∀ (n:Nat) (w:World),(Op.equalIn (n + 1) t (dVal x) (dVal y)).run Tryz.prog w = .ok (dEq y x) w
 chk:∀ (e:Bool) (n:Nat) (w:World),(Instr.checkKey e (n + 1) t (dVal x)).run Tryz.prog w = .ok () w
 bits:∀ n,Instr.sameBits n (dVal x) (dVal x) = true
theorem scal_inv {k:TK} {d:D} (h:scalarB k d = true):(∃ q m,k = .int q ∧ d = .sc (.int q m)) ∨ (∃ s,k = .str ∧ d = .sc (.string s)) ∨ ∃ b,k = .bool ∧ d = .sc (.bool b):=by
 unfold scalarB at h
 split at h
 ·rename_i q q' m
  obtain rfl:=keq_is h
  exact .inl ⟨_,m,rfl,rfl⟩
 ·exact .inr (.inl ⟨_,rfl,rfl⟩)
 ·exact .inr (.inr ⟨_,rfl,rfl⟩)
 ·cases h
theorem scal_ok {t:Nat} (ht:tyKnown t = true) {x y:D} (hx:scalarB (ty t).kind x = true) (hy:scalarB (ty t).kind y = true):∃ d,ScalOk t x y d:=by
 rcases scal_inv hx with ⟨q,m,hk,rfl⟩ | ⟨m,hk,rfl⟩ | ⟨m,hk,rfl⟩ <;> rcases scal_inv hy with ⟨q',n,hk',rfl⟩ | ⟨n,hk',rfl⟩ | ⟨n,hk',rfl⟩ <;> rw [hk] at hk' <;> first | cases hk';done | skip
 ·injection hk' with hk'
  subst hk'
  have hu:=ty_int ht hk
  refine ⟨_,hu,rfl,?_,fun n w=>?_,fun e n w=>?_,fun n=>?_⟩
  ·simp only [Instr.sameNow,dVal,dEq,intEq_is,if_true]
   rw [BEq.comm]
  ·simp only [Op.equalIn,run_underlying hu,dVal,dEq,intEq_is,Sem.run_bind,Result.andThen_ok,if_true,Sem.run_pure]
   rw [BEq.comm]
  ·simp [Instr.checkKey,run_underlying hu,dVal]
  ·cases n <;> simp [Instr.sameBits,dVal]
 ·have hu:=ty_str ht hk
  refine ⟨_,hu,rfl,?_,fun n w=>?_,fun e n w=>?_,fun n=>?_⟩
  ·simp only [Instr.sameNow,dVal,dEq,bytesEq_is,bytes_eq]
   rw [BEq.comm]
  ·simp only [Op.equalIn,run_underlying hu,dVal,dEq,bytesEq_is,bytes_eq,Sem.run_bind,Result.andThen_ok,Sem.run_pure]
   rw [BEq.comm]
  ·simp [Instr.checkKey,run_underlying hu,dVal]
  ·have h0:(m == m) = true:=by rw [bytes_eq];simp
   cases n <;> exact h0
 ·have hu:=ty_bool ht hk
  refine ⟨_,hu,rfl,?_,fun n w=>?_,fun e n w=>?_,fun n=>?_⟩
  ·simp only [Instr.sameNow,dVal,dEq,bEq_is]
   rw [BEq.comm]
  ·simp only [Op.equalIn,run_underlying hu,dVal,dEq,bEq_is,Sem.run_bind,Result.andThen_ok,Sem.run_pure]
   rw [BEq.comm]
  ·simp [Instr.checkKey,run_underlying hu,dVal]
  ·cases n <;> simp [Instr.sameBits,dVal]
theorem part_scal {u:Nat} {us:Array Value} {off:Nat} {v:Value} {w:World} (h:(ty u).agg = false) (hu:tyKnown u = true) (hv:us[off]? = some v):(part u us off).run Tryz.prog w = .ok v w:=by
 simp only [part,Sem.run_bind,ty_agg hu,h,Result.andThen_ok,Bool.false_eq_true,if_false,hv,Sem.run_pure]
def FOk:List Field → Nat → List D → Prop
 | [],_,[]=>True
 | f :: fs,n,d :: ds=>f.offset = n ∧ tyKnown f.type = true ∧ (f.name != "_") = true ∧ scalarB (ty f.type).kind d = true ∧ FOk fs (n + 1) ds
 | _,_,_=>False
theorem fok_of:∀ {fs:List Field} {fl:List (Nat × Nat)} {n:Nat} {ds:List D},fs.map (·.offset) = fl.map (·.1) → (∀ f ∈ fs,tyKnown f.type = true ∧ (f.name != "_") = true) → scalarsB (fs.map (·.type)) fl n ds = true → FOk fs n ds
 | [],[],n,[],_,_,_=>trivial
 | [],[],n,_ :: _,_,_,h=>by cases h
 | [],_ :: _,n,ds,h,_,_=>by cases h
 | f :: fs,[],n,ds,h,_,_=>by cases h
 | f :: fs,(off,sz) :: fl,n,ds,ho,hk,h=>by
  rw [List.map_cons,List.map_cons] at ho
  injection ho with ho1 ho2
  simp only at ho1
  rw [List.map_cons] at h
  unfold scalarsB at h
  split at h
  ·contradiction
  ·rename_i u us off' fs' n' d ds e1 e2
   injection e1 with e1 e3
   injection e2 with e2 e4
   injection e2 with e2 e5
   subst e1;subst e3;subst e4;subst e2
   split at h
   ·rename_i h1
    split at h
    ·rename_i h2
     rw [eqN_is] at h1
     exact ⟨ho1.trans h1,(hk f (List.mem_cons_self ..)).1,(hk f (List.mem_cons_self ..)).2,h2,fok_of ho2 (fun f hf=>hk f (List.mem_cons_of_mem _ hf)) h⟩
    ·cases h
   ·cases h
  ·cases h
section
variable {w:World}
theorem eq_fields:∀ {fs:List Field} {n:Nat} {xs ys:List D} {us vs:List D},us.length = n → vs.length = n → FOk fs n xs → FOk fs n ys → ∀ m,(Op.eqFields (m + 1) ((us ++ xs).map dVal).toArray ((vs ++ ys).map dVal).toArray fs).run Tryz.prog w = .ok (dsEq ys xs) w
 | [],n,[],[],us,vs,_,_,_,_,m=>rfl
 | f :: fs,n,x :: xs,y :: ys,us,vs,hu,hv,hx,hy,m=>by
  obtain ⟨h1,h2,h3,h4,h5⟩:=hx
  obtain ⟨g1,g2,g3,g4,g5⟩:=hy
  obtain ⟨d,hd⟩:=scal_ok h2 h4 g4
  have hag:=ty_noagg h2 hd.un hd.ag
  have px:(part f.type ((us ++ x :: xs).map dVal).toArray f.offset).run Tryz.prog w = .ok (dVal x) w:=part_scal hag h2 (by rw [h1,← hu];simp)
  have py:(part f.type ((vs ++ y :: ys).map dVal).toArray f.offset).run Tryz.prog w = .ok (dVal y) w:=part_scal hag h2 (by rw [h1,← hv];simp)
  have ih:=eq_fields (fs:=fs) (n:=n + 1) (us:=us ++ [x]) (vs:=vs ++ [y]) (by simp [hu]) (by simp [hv]) h5 g5 m
  rw [List.append_assoc,List.append_assoc] at ih
  simp only [List.singleton_append] at ih
  rw [Op.eqFields,if_pos (by simpa using h3)]
  simp only [Sem.run_bind,px,py,Result.andThen_ok,hd.eq m w]
  rw [dsEq]
  cases dEq y x with
  | false=>rfl
  | true=>exact ih
theorem chk_fields {em:Bool} {m:Nat}:∀ {fs:List Field} {n:Nat} {xs us:List D},us.length = n → FOk fs n xs → (forIn fs PUnit.unit fun f (_:PUnit)=>(if f.name ≠ "_" then do Instr.checkKey em (m + 1) f.type (← part f.type ((us ++ xs).map dVal).toArray f.offset);pure (.yield PUnit.unit) else pure (.yield PUnit.unit):Sem (ForInStep PUnit))).run Tryz.prog w = .ok PUnit.unit w
 | [],n,[],us,_,_=>rfl
 | f :: fs,n,x :: xs,us,hu,hx=>by
  obtain ⟨h1,h2,h3,h4,h5⟩:=hx
  obtain ⟨d,hd⟩:=scal_ok h2 h4 h4
  have hag:=ty_noagg h2 hd.un hd.ag
  have px:(part f.type ((us ++ x :: xs).map dVal).toArray f.offset).run Tryz.prog w = .ok (dVal x) w:=part_scal hag h2 (by rw [h1,← hu];simp)
  have ih:=chk_fields (em:=em) (m:=m) (fs:=fs) (n:=n + 1) (us:=us ++ [x]) (by simp [hu]) h5
  rw [List.append_assoc] at ih
  simp only [List.singleton_append] at ih
  rw [List.forIn_cons]
  rw [if_pos (by simpa using h3)]
  simp only [Sem.run_bind,px,Result.andThen_ok,hd.chk em m w,Sem.run_pure]
  exact ih
theorem bits_fields:∀ {n:Nat} {xs:List D},(∀ x ∈ xs,Instr.sameBits n (dVal x) (dVal x) = true) → Instr.sameBits (n + 1) (.agg (xs.map dVal).toArray) (.agg (xs.map dVal).toArray) = true:=by
 intro n xs h
 simp only [Instr.sameBits,beq_self_eq_true,Bool.true_and,List.all_eq_true]
 intro p hp
 obtain ⟨i,hi⟩:=List.mem_iff_getElem?.1 hp
 rw [List.getElem?_zip_eq_some] at hi
 have e:p.1 = p.2:=Option.some.inj (hi.1.symm.trans hi.2)
 have h2:=hi.1
 simp only [List.getElem?_map] at h2
 obtain ⟨x,hx,hpx⟩:=Option.map_eq_some_iff.1 h2
 obtain ⟨p1,p2⟩:=p
 simp only at e hpx ⊢
 rw [← e,← hpx]
 exact h x (List.mem_of_getElem? hx)
theorem skey_mem {t:Nat}:∀ {l:List Nat},skeyB t l = true → t ∈ l
 | [],h=>by cases h
 | u :: l,h=>by
  rw [skeyB] at h
  split at h
  ·rename_i e;rw [eqN_is] at e;rw [e];exact List.mem_cons_self ..
  ·exact List.mem_cons_of_mem _ (skey_mem h)
theorem skey_fields {t:Nat} (ht:tyKnown t = true) (hf:∀ u ∈ (ty t).fty,tyKnown u = true) {ds:List D} (h:keyB t (.ag ds) = true):∃ fs,Tryz.prog.underlying t = some (.struct fs) ∧ Tryz.prog.stoodInHeld t = false ∧ FOk fs.toList 0 ds:=by
 rw [keyB] at h
 split at h
 ·rename_i hst
  split at h
  ·rename_i hs
   have hm:=skeysOk t (skey_mem hs)
   unfold skeyOk at hm
   simp only [Bool.and_eq_true,Bool.not_eq_true'] at hm
   obtain ⟨⟨h1,_⟩,h2⟩:=hm
   obtain ⟨fs,hu,h3,h4⟩:=ty_struct ht hst
   rw [hu] at h2
   refine ⟨fs,hu,h1,fok_of (fl:=(ty t).flds) ?_ (fun f hfm=>⟨hf _ (by rw [← h4];exact List.mem_map_of_mem hfm),List.all_eq_true.1 h2 f hfm⟩) (by rw [h4];exact h)⟩
   have:=congrArg (List.map Prod.fst) h3
   simpa [List.map_map,Function.comp_def] using this
  ·cases h
 ·cases h
structure KeyOk (t:Nat) (x y:R) (w:World):Prop where
 eq:(Op.equal t (rVal x) (rVal y)).run Tryz.prog w = .ok (rEq y x) w
 chk:∀ e,(Instr.checkKey e 10000 t (rVal x)).run Tryz.prog w = .ok () w
 bits:Instr.sameBits 10000 (rVal x) (rVal x) = true
 now:∀ d,Tryz.prog.underlying t = some d → Instr.sameNow d (rVal x) (rVal y) = some (rEq y x) ∨ Instr.sameNow d (rVal x) (rVal y) = none
theorem key_ok {t:Nat} (ht:tyKnown t = true) (hf:∀ u ∈ (ty t).fty,tyKnown u = true) {x y:R} (hx:keyB t x = true) (hy:keyB t y = true):KeyOk t x y w:=by
 cases x with
 | one x =>
  cases y with
  | one y =>
   obtain ⟨d,hd⟩:=scal_ok ht hx hy
   exact ⟨hd.eq 9999 w,fun e=>hd.chk e 9999 w,hd.bits _,fun d' hd'=>by
    have h:=hd.un
    rw [hd'] at h
    injection h with h
    subst h
    exact .inl hd.now⟩
  | ag ys =>
   obtain ⟨fs,hu,_⟩:=skey_fields ht hf hy
   obtain ⟨d,hd⟩:=scal_ok ht hx hx
   have h:=hd.un
   rw [hu] at h
   injection h with h
   subst h
   cases hd.ag
 | ag xs =>
  obtain ⟨fs,hu,hst,hfx⟩:=skey_fields ht hf hx
  cases y with
  | one y =>
   obtain ⟨d,hd⟩:=scal_ok ht hy hy
   have h:=hd.un
   rw [hu] at h
   injection h with h
   subst h
   cases hd.ag
  | ag ys =>
   obtain ⟨fs',hu',_,hfy⟩:=skey_fields ht hf hy
   rw [hu] at hu'
   injection hu' with hu'
   injection hu' with hu'
   subst hu'
   have hfo:Tryz.prog.fieldsOf t = fs:=by unfold Program.fieldsOf;rw [hu]
   refine ⟨?_,fun e=>?_,?_,fun d hd=>?_⟩
   ·have h1:=run_equalIn_struct w 9999 t (xs.map dVal).toArray (ys.map dVal).toArray (by rw [hfo];exact hu) hst
    rw [hfo] at h1
    exact h1.trans (eq_fields (us:=[]) (vs:=[]) rfl rfl hfx hfy 9998)
   ·have h1:=chk_fields (w:=w) (em:=e) (m:=9998) (us:=[]) rfl hfx
    show (Instr.checkKey e (9999 + 1) t (.agg (xs.map dVal).toArray)).run Tryz.prog w = _
    rw [Instr.checkKey]
    simp only [Sem.run_bind,run_underlying hu,Result.andThen_ok]
    rw [← Array.forIn_toList]
    exact (congrArg (fun r=>r.andThen fun a w'=>Sem.run Tryz.prog (pure ()) w') h1:_)
   ·refine bits_fields (n:=9999) fun x hx'=>?_
    have key:∀ {fs:List Field} {n:Nat} {xs:List D},FOk fs n xs → ∀ x ∈ xs,Instr.sameBits 9999 (dVal x) (dVal x) = true:=by
     intro fs
     induction fs with
     | nil =>
      intro n xs h x hx
      cases xs with
      | nil=>cases hx
      | cons y ys=>exact (show False from h).elim
     | cons f fs ih =>
      intro n xs h x hx
      cases xs with
      | nil=>cases hx
      | cons y xs =>
       obtain ⟨h1,h2,h3,h4,h5⟩:=h
       rcases List.mem_cons.1 hx with rfl | hx
       ·obtain ⟨d,hd⟩:=scal_ok h2 h4 h4
        exact hd.bits _
       ·exact ih h5 x hx
    exact key hfx x hx'
   ·rw [hu] at hd
    injection hd with hd
    subst hd
    exact .inr rfl
end
section
variable {I:Nat → Nat → Prop} {w:World} {g:Nat → Value}
theorem plain_at:∀ {xs:List V} {us:List Value} {ds:List D},AtVs I w g us xs → plainDs xs = some ds → AtDs I w us ds
 | [],us,ds,h,hd=>by
  rw [plainDs] at hd
  injection hd with hd
  subst hd
  rw [h.unnil]
  exact .nil I w
 | x :: l,us,ds,h,hd=>by
  obtain ⟨u,us,rfl,h1,h2⟩:=h.uncons
  cases x with
  | d x =>
   rw [plainDs] at hd
   split at hd
   ·rename_i ys hys
    injection hd with hd
    subst hd
    cases h1 with
    | d h1=>exact .cons h1 (plain_at h2 hys)
   ·cases hd
  | _=>simp [plainDs] at hd
end
end
section
section
variable {I0:Nat → Nat → Prop} {X:Nat → Prop} {w0:W0} {I:Nat → Nat → Prop} {g:Nat → Value} {s:S} {a:Act} {w:World}
theorem notB_is (b:Bool):notB b = !b:=by cases b <;> rfl
theorem orB_is (a b:Bool):orB a b = (a || b):=by cases a <;> rfl
theorem val_ok (h:RelI I0 X w0 I g s a w) {K:V → Prop} {op:BinOp} {t:Nat} (ox oy:Operand) {x y:Value} (hK:binVal real op x y K):Yld I0 X w0 g s a w (do eqGuard op t ox oy x y;binOp op t x y) K:=by
  unfold binVal at hK
  split at hK <;> try exact hK.elim
  · rename_i K k m k' n
    split at hK
    · rename_i hb
      have key:∀ r,bitsI op k m k' n = some r → (do eqGuard op t ox oy (.int k m) (.int k' n);binOp op t (.int k m) (.int k' n)).run Tryz.prog w = .ok (.int k r) w:=by
        intro r hr
        unfold bitsI at hr
        split at hr
        · cases n with
          | ofNat n =>
            injection hr with hr
            subst hr
            have h0:¬ (Int.ofNat n < 0):=by simp
            simp only [eqGuard,binOp,Op.shift,if_neg h0]
            rfl
          | negSucc n=>cases hr
        · cases n with
          | ofNat n =>
            injection hr with hr
            subst hr
            have h0:¬ (Int.ofNat n < 0):=by simp
            simp only [eqGuard,binOp,Op.shift,if_neg h0]
            rfl
          | negSucc n=>cases hr
        all_goals first
          | (exfalso;cases hr;done)
          | (split at hr
             · rename_i hk
               obtain rfl:=keq_is hk
               injection hr with hr
               subst hr
               simp only [eqGuard,binOp,Op.intBits,ne_eq,not_true,if_false]
               rfl
             · cases hr)
      rw [show real.bits op k m k' n = bitsI op k m k' n from rfl] at hK
      cases hr:bitsI op k m k' n with
      | none=>rw [hr] at hK;exact hK.elim
      | some r =>
        rw [hr] at hK
        exact yld h (key r hr) (ati k _) hK
    split at hK <;> try exact hK.elim
    rename_i hk
    obtain rfl:=keq_is hk
    unfold binInt at hK
    split at hK <;> try exact hK.elim
    · exact yld h (by simp [eqGuard,binOp,Op.intArith];rfl) (ati k _) hK
    · exact yld h (by simp [eqGuard,binOp,Op.intArith];rfl) (ati k _) hK
    · exact yld h (by simp [eqGuard,binOp,Op.intArith];rfl) (ati k _) hK
    · have h0:n ≠ 0:=hK.1
      exact yld h (by simp [eqGuard,binOp,Op.intDiv,h0];rfl) (ati k _) hK.2
    · have h0:n ≠ 0:=hK.1
      exact yld h (by simp [eqGuard,binOp,Op.intDiv,h0];rfl) (ati k _) hK.2
    · exact yld h (by simp [eqGuard,binOp,Op.intCmp];rfl) (atb _) hK
    · refine yld h ?_ (atb _) hK
      simp [eqGuard,binOp,Op.intCmp,notB_is]
      rfl
    · exact yld h (by simp [eqGuard,binOp,Op.intCmp];rfl) (atb _) hK
    · exact yld h (by simp [eqGuard,binOp,Op.intCmp];rfl) (atb _) hK
    · exact yld h (by simp [eqGuard,binOp,Op.intCmp];rfl) (atb _) hK
    · exact yld h (by simp [eqGuard,binOp,Op.intCmp];rfl) (atb _) hK
  · rename_i K b c
    unfold binStr at hK
    split at hK <;> try exact hK.elim
    · have h0:b.size + c.size ≤ 4611686018427387904:=hK.1
      have h1:¬ (((b.size + c.size:Nat):Int) > 9223372036854775807):=by omega
      refine yld h ?_ (ats _) hK.2
      simp only [eqGuard,binOp,Op.stringOp,IntKind.max_i64]
      rw [if_neg h1]
      rfl
    all_goals
      refine yld h ?_ (atb _) hK
      simp only [eqGuard,binOp,Op.stringOp,notB_is,orB_is]
      rfl
theorem nil_ok (h:RelI I0 X w0 I g s a w) {K:V → Prop} {op:BinOp} {t:Nat} (ox oy:Operand) {x y:Value} {b:Bool} (h0:∀ p q,x ≠ .int p q) (h1:∀ p q,y ≠ .int p q) (hx:(∃ p,x = .pointer p) ∨ (∃ p,x = .bool p) ∨ ∃ A n c,x = .slice A n c) (he:(Op.equal t x y).run Tryz.prog w = .ok b w) (hK:nilEq b K op):Yld I0 X w0 g s a w (do eqGuard op t ox oy x y;binOp op t x y) K:=by
 have hg:(eqGuard op t ox oy x y).run Tryz.prog w = .ok () w:=by
  unfold eqGuard
  cases op <;> rcases hx with ⟨p,rfl⟩ | ⟨p,rfl⟩ | ⟨A,n,c,rfl⟩ <;> rfl
 cases op <;> try exact hK.elim
 ·refine yld h ?_ (atb _) hK
  simp only [Sem.run_bind,hg,Result.andThen_ok]
  rcases hx with ⟨p,rfl⟩ | ⟨p,rfl⟩ | ⟨A,n,c,rfl⟩ <;> cases y <;> first | exact absurd rfl (h1 _ _) | simp [binOp,he]
 ·refine yld h ?_ (atb _) hK
  simp only [Sem.run_bind,hg,Result.andThen_ok]
  rcases hx with ⟨p,rfl⟩ | ⟨p,rfl⟩ | ⟨A,n,c,rfl⟩ <;> cases y <;> first | exact absurd rfl (h1 _ _) | simp [binOp,he,notB_is]
theorem ag_ok (h:RelI I0 X w0 I g s a w) {K:V → Prop} {op:BinOp} {t:Nat} (ox oy:Operand) {x y:Array Value} {b:Bool} (hq:Tryz.prog.eqGuardType Tryz.prog.depth t = false) (he:(Op.equal t (.agg x) (.agg y)).run Tryz.prog w = .ok b w) (hK:nilEq b K op):Yld I0 X w0 g s a w (do eqGuard op t ox oy (.agg x) (.agg y);binOp op t (.agg x) (.agg y)) K:=by
 generalize hP:Tryz.prog = P at *
 have hg:∀ op,(op = .eql ∨ op = .neq) → (eqGuard op t ox oy (.agg x) (.agg y)).run P w = .ok () w:=by
  intro op ho
  rcases ho with rfl | rfl <;> simp [eqGuard,hq]
 subst hP
 cases op <;> try exact hK.elim
 ·refine yld h ?_ (atb _) hK
  simp only [Sem.run_bind,hg _ (.inl rfl),Result.andThen_ok]
  simp only [binOp,Sem.run_bind,he,Result.andThen_ok,Sem.run_pure]
 ·refine yld h ?_ (atb _) hK
  simp only [Sem.run_bind,hg _ (.inr rfl),Result.andThen_ok]
  simp only [binOp,Sem.run_bind,he,Result.andThen_ok,Sem.run_pure,notB_is]
theorem key_guard {t:Nat} {ds:List D} (h:keyB t (.ag ds) = true):(ty t).kind = .struct ∧ Tryz.prog.eqGuardType Tryz.prog.depth t = false:=by
 rw [keyB] at h
 split at h
 ·rename_i hst
  split at h
  ·rename_i hs
   have hm:=skeysOk t (skey_mem hs)
   unfold skeyOk at hm
   simp only [Bool.and_eq_true,Bool.not_eq_true'] at hm
   exact ⟨hst,hm.1.2⟩
  ·cases h
 ·cases h
theorem eqp {t e:Nat} (hu:Tryz.prog.underlying t = some (.pointer e)) (p:Option Addr):(Op.equal t (.pointer p) (.pointer none)).run Tryz.prog w = .ok p.isNone w ∧ (Op.equal t (.pointer none) (.pointer p)).run Tryz.prog w = .ok p.isNone w:=by
 have key:∀ d,(Op.equalIn (d + 1) t (.pointer p) (.pointer none)).run Tryz.prog w = .ok p.isNone w ∧ (Op.equalIn (d + 1) t (.pointer none) (.pointer p)).run Tryz.prog w = .ok p.isNone w:=fun d=>by
  cases p <;> simp [Op.equalIn,run_underlying hu]
 exact key 9999
theorem eqb {t:Nat} (hu:Tryz.prog.underlying t = some .bool) (b c:Bool):(Op.equal t (.bool b) (.bool c)).run Tryz.prog w = .ok (b == c) w:=by
 have key:∀ d,(Op.equalIn (d + 1) t (.bool b) (.bool c)).run Tryz.prog w = .ok (b == c) w:=fun d=>by
  simp [Op.equalIn,run_underlying hu]
 exact key 9999
theorem eqs {t e:Nat} (hu:Tryz.prog.underlying t = some (.slice e)) (A:Option Addr) (n c:Nat):(Op.equal t (.slice A n c) (.slice none 0 0)).run Tryz.prog w = .ok A.isNone w:=by
 have key:∀ d,(Op.equalIn (d + 1) t (.slice A n c) (.slice none 0 0)).run Tryz.prog w = .ok A.isNone w:=fun d=>by
  cases A <;> simp [Op.equalIn,run_underlying hu]
 exact key 9999
theorem isNilP_at {u:Value} {x:V} (hu:AtV I w g u x) (h:isNilP x = true):u = .pointer none:=by
 unfold isNilP at h
 split at h
 ·exact hu.sc
 ·cases h
theorem bin_ok (h:RelI I0 X w0 I g s a w) {K:V → Prop} {op:BinOp} {t:Nat} (ht:eqOk t = true) (ox oy:Operand) {u v:Value} {x y:V} (hu:AtV I w g u x) (hv:AtV I w g v y) (hK:binV real op t x y K):Yld I0 X w0 g s a w (do eqGuard op t ox oy u v;binOp op t u v) K:=by
 unfold eqOk at ht
 unfold binV at hK
 split at hK <;> try exact hK.elim
 ·rename_i x y
  obtain rfl:=hu.sc
  obtain rfl:=hv.sc
  split at hK
  ·rename_i hk
   rw [hk] at ht
   obtain ⟨e,hun⟩:=ty_ptr ht hk
   split at hK <;> try exact hK.elim
   exact nil_ok h ox oy (by simp) (by simp) (.inl ⟨_,rfl⟩) (eqp hun none).1 hK
  ·rename_i hk
   rw [hk] at ht
   have hun:=ty_bool ht hk
   split at hK <;> try exact hK.elim
   rename_i b c
   rw [bEq_is] at hK
   exact nil_ok h ox oy (by simp) (by simp) (.inr (.inl ⟨_,rfl⟩)) (eqb hun b c) hK
  ·exact val_ok h ox oy hK
 ·rename_i y K k off
  split at hK <;> try exact hK.elim
  rename_i hk
  rw [hk] at ht
  obtain ⟨e,hun⟩:=ty_ptr ht hk
  split at hK <;> try exact hK.elim
  rename_i hn
  obtain rfl:=isNilP_at hv hn
  obtain ⟨b,_,rfl⟩:=hu.unptr
  exact nil_ok h ox oy (by simp) (by simp) (.inl ⟨_,rfl⟩) (eqp hun _).1 hK
 ·rename_i x K k off _ _
  split at hK <;> try exact hK.elim
  rename_i hk
  rw [hk] at ht
  obtain ⟨e,hun⟩:=ty_ptr ht hk
  split at hK <;> try exact hK.elim
  rename_i hn
  obtain rfl:=isNilP_at hu hn
  obtain ⟨b,_,rfl⟩:=hv.unptr
  exact nil_ok h ox oy (by simp) (by simp) (.inl ⟨_,rfl⟩) (eqp hun _).2 hK
 ·rename_i K sz rows
  split at hK <;> try exact hK.elim
  rename_i hk
  have hk:(ty t).kind = .slice:=by revert hk;cases (ty t).kind <;> intro hk <;> first | rfl | cases hk
  rw [hk] at ht
  have ht:(tyKnown t && (ty t).elem.isSome) = true:=ht
  rw [Bool.and_eq_true] at ht
  obtain ⟨e,he⟩:=Option.isSome_iff_exists.1 ht.2
  have hun:=ty_slice ht.1 he
  rw [hv.unem]
  cases hu with
  | d hd =>
   obtain ⟨A,cap,rfl,hcap,hr⟩:=hd.slice
   have hne:rows ≠ []:=fun e=>hK.1 (by rw [e];rfl)
   rcases hr with hr | ⟨b,off,us,rfl,_⟩
   ·exact absurd hr hne
   ·exact nil_ok h ox oy (by simp) (by simp) (.inr (.inr ⟨_,_,_,rfl⟩)) (eqs hun _ _ _) hK.2
 ·rename_i K
  split at hK <;> try exact hK.elim
  rename_i hk
  have hk:(ty t).kind = .slice:=by revert hk;cases (ty t).kind <;> intro hk <;> first | rfl | cases hk
  rw [hk] at ht
  have ht:(tyKnown t && (ty t).elem.isSome) = true:=ht
  rw [Bool.and_eq_true] at ht
  obtain ⟨e,he⟩:=Option.isSome_iff_exists.1 ht.2
  have hun:=ty_slice ht.1 he
  rw [hv.unem,hu.unem]
  exact nil_ok h ox oy (by simp) (by simp) (.inr (.inr ⟨_,_,_,rfl⟩)) (eqs hun _ _ _) hK
 ·rename_i K xs ys
  split at hK <;> try exact hK.elim
  rename_i ds es h1 h2
  split at hK <;> try exact hK.elim
  rename_i hk1
  split at hK <;> try exact hK.elim
  rename_i hk2
  obtain ⟨us,rfl,hus⟩:=hu.unag
  obtain ⟨vs,rfl,hvs⟩:=hv.unag
  have a1:=key_val (r:=.ag ds) ⟨us,rfl,plain_at hus h1⟩ hk1
  have a2:=key_val (r:=.ag es) ⟨vs,rfl,plain_at hvs h2⟩ hk2
  obtain ⟨hst,hg⟩:=key_guard hk1
  rw [hst] at ht
  have ht:(tyKnown t && (ty t).fty.all tyKnown) = true:=ht
  rw [Bool.and_eq_true] at ht
  have hkey:=(key_ok (w:=w) ht.1 (fun u hu=>List.all_eq_true.1 ht.2 u hu) hk1 hk2).eq
  rw [← a1,← a2] at hkey
  exact ag_ok h ox oy hg hkey hK
theorem un_ok (h:RelI I0 X w0 I g s a w) {K:V → Prop} {op:UnOp} {u:Value} {x:V} (hu:AtV I w g u x) (hK:unV real op x K):Yld I0 X w0 g s a w (Op.unary op u) K:=by
 unfold unV at hK
 split at hK <;> try exact hK.elim
 ·obtain rfl:=hu.sc
  refine yld h ?_ (atb _) hK
  simp only [Op.unary,notB_is]
  rfl
 ·obtain rfl:=hu.sc
  exact yld h (by simp only [Op.unary,Op.intArith];rfl) (ati _ _) hK
theorem byteR_at {us:List Value} {r:List D} {c:UInt8} (h:AtDs I w us r) (hc:byteR r = some c):∃ n:Int,us = [.int .u8 n] ∧ c = UInt8.ofNat n.toNat:=by
 unfold byteR at hc
 split at hc
 ·rename_i v
  obtain ⟨u,us',rfl,h1,h2⟩:=h.uncons
  have h3:us' = []:=List.eq_nil_of_length_eq_zero h2.1
  subst h3
  cases h1 with
  | sc _ hv =>
  unfold byteV at hc
  split at hc
  ·rename_i k n
   split at hc
   ·rename_i hk
    obtain rfl:=keq_is hk
    injection hc with hc
    exact ⟨n,rfl,hc.symm⟩
   ·cases hc
  ·cases hc
 ·cases hc
theorem bytesB_at:∀ {rows:List (List D)} {us:List Value} {l:List UInt8},AtDs I w us rows.flatten → bytesB rows = some l → ∃ ns:List Int,us = ns.map (Value.int .u8) ∧ l = ns.map (fun n=>UInt8.ofNat n.toNat)
 | [],us,l,h,hb=>by
  injection hb with hb
  subst hb
  exact ⟨[],List.eq_nil_of_length_eq_zero h.1,rfl⟩
 | r :: rows,us,l,h,hb=>by
  rw [bytesB] at hb
  split at hb <;> try cases hb
  rename_i c hc
  split at hb <;> try cases hb
  rename_i t ht
  rw [List.flatten_cons] at h
  have h1:AtDs I w (us.take r.length) r:=by
   have:=h.take r.length
   rw [List.take_left] at this
   exact this
  have h2:AtDs I w (us.drop r.length) rows.flatten:=by
   have:=h.drop r.length
   rw [List.drop_left] at this
   exact this
  obtain ⟨n,e1,e2⟩:=byteR_at h1 hc
  obtain ⟨ns,e3,e4⟩:=bytesB_at h2 ht
  exact ⟨n :: ns,by rw [← List.take_append_drop r.length us,e1,e3];rfl,by rw [e2,e4];rfl⟩
theorem push_all:∀ (ns:List Int) (s:ByteArray),ns.foldl (fun r n=>r.push (UInt8.ofNat n.toNat)) s = ⟨⟨s.data.toList ++ ns.map (fun n=>UInt8.ofNat n.toNat)⟩⟩
 | [],s=>by simp
 | n :: ns,s=>by
  rw [List.foldl_cons,push_all ns]
  simp [ByteArray.push]
theorem isByte_at {t:Nat} (h:isByte t = true):∃ e,(ty t).elem = some e ∧ tyKnown e = true ∧ (ty e).kind = .int .u8:=by
 unfold isByte at h
 split at h
 ·rename_i e he
  rw [Bool.and_eq_true] at h
  obtain ⟨h1,h2⟩:=h
  split at h2
  ·rename_i k hk
   obtain rfl:=keq_is h2
   exact ⟨e,he,h1,hk⟩
  ·cases h2
 ·cases h
theorem convOk_sl {t u:Nat} (h:convOk t u = true) (h1:isSlK (ty t).kind = true) (h2:(ty u).kind = .str):isByte t = true:=by
 unfold convOk at h
 rw [h1,h2,Bool.and_eq_true] at h
 simpa [notB,isStK] using h.1
theorem convOk_st {t u:Nat} (h:convOk t u = true) (h1:isStK (ty t).kind = true) (h2:(ty u).kind = .slice):isByte u = true:=by
 unfold convOk at h
 rw [h1,h2,Bool.and_eq_true] at h
 simpa [notB,isSlK] using h.2
theorem conv_ok (h:RelI I0 X w0 I g s a w) {K:V → Prop} {t0 t:Nat} (ht0:tyKnown t0 = true) (ht:tyKnown t = true) (hcv:convOk t0 t = true) {u:Value} {x:V} (hu:AtV I w g u x) (hK:convV real K (ty t0).kind (ty t).kind x):Yld I0 X w0 g s a w (convert t0 t u) K:=by
 have h0:∃ d,Tryz.prog.underlying t0 = some d:=by
  have:=(tyOk t0 ht0).agg
  cases hd:Tryz.prog.underlying t0 with
  | none=>rw [hd] at this;cases this
  | some d=>exact ⟨d,rfl⟩
 obtain ⟨d0,hd0⟩:=h0
 unfold convV at hK
 split at hK <;> try exact hK.elim
 ·rename_i k hkind
  unfold convI at hK
  split at hK <;> try exact hK.elim
  obtain rfl:=hu.sc
  exact yld h (by simp [convert,run_underlying hd0,run_underlying (ty_int ht hkind),Conv.intToInt];rfl) (ati _ _) hK
 ·rename_i hkind
  unfold convT at hK
  split at hK <;> try exact hK.elim
  ·obtain rfl:=hu.sc
   exact yld h (by simp [convert,run_underlying hd0,run_underlying (ty_str ht hkind)]) (ats _) hK
  ·rename_i sz rows
   split at hK <;> try exact hK.elim
   rename_i hsl
   obtain ⟨e,he,hke,hkk⟩:=isByte_at (convOk_sl hcv hsl hkind)
   unfold optT at hK
   split at hK <;> try exact hK.elim
   rename_i b hb
   replace hb:bytesOf rows = some b:=hb
   unfold bytesOf at hb
   split at hb <;> try cases hb
   rename_i l hl
   cases hu with
   | d hd =>
    obtain ⟨A,cap,rfl,hcap,hrows⟩:=hd.slice
    have key:(Conv.bytesToString (.slice A rows.length cap)).run Tryz.prog w = .ok (.string ⟨⟨l⟩⟩) w:=by
     rcases hrows with rfl | ⟨b,off,us,rfl,hI,hr,hlen,hcell,hat⟩
     ·have hl:l = []:=(Option.some.inj hl).symm
      subst hl
      cases A with
      | none=>rfl
      | some p =>
       have h1:=run_bytesToString (P:=Tryz.prog) w p 0 cap [] (run_loadCells_list (P:=Tryz.prog) w p [] (fun j v hv=>by simp at hv))
       rw [push_all] at h1
       exact h1
     ·obtain ⟨ns,e1,e2⟩:=bytesB_at hat hl
      have hl1:us.length = rows.length:=by
       rw [hlen]
       have:∀ {rows:List (List D)} {l:List UInt8},bytesB rows = some l → ∀ r ∈ rows,r.length = 1:=by
        intro rows
        induction rows with
        | nil=>intro l _ r hr;cases hr
        | cons r0 rows ih =>
         intro l hb r hr
         rw [bytesB] at hb
         split at hb <;> try cases hb
         rename_i c hc
         split at hb <;> try cases hb
         rename_i t ht
         rcases List.mem_cons.1 hr with rfl | hr
         ·unfold byteR at hc
          split at hc
          ·rfl
          ·cases hc
         ·exact ih ht r hr
       cases rows with
       | nil=>simp
       | cons r rows=>rw [← hr r (List.mem_cons_self ..),this hl r (List.mem_cons_self ..),Nat.mul_one]
      have h1:=run_bytesToString (P:=Tryz.prog) w ⟨b,off,none⟩ rows.length cap ns (by rw [← hl1,← e1];exact run_loadCells_list (P:=Tryz.prog) w ⟨b,off,none⟩ us (fun j v hv=>by rw [Addr.add_lit];exact hcell j v hv))
      rw [push_all] at h1
      rw [h1,e2]
      rfl
    exact yld h (by rw [run_convert_bytes_string w t0 t e A rows.length cap (ty_slice ht0 he) (ty_int hke hkk) (ty_str ht hkind)];exact key) (ats _) hK
  ·split at hK <;> try exact hK.elim
   rename_i hsl
   obtain ⟨e,he,hke,hkk⟩:=isByte_at (convOk_sl hcv hsl hkind)
   rw [hu.unem]
   exact yld h (by rw [run_convert_bytes_string w t0 t e none 0 0 (ty_slice ht0 he) (ty_int hke hkk) (ty_str ht hkind)];rfl) (ats _) hK
 ·rename_i hkind
  unfold convB at hK
  split at hK <;> try exact hK.elim
  rename_i b
  split at hK <;> try exact hK.elim
  rename_i hst
  obtain ⟨e,he,hke,hkk⟩:=isByte_at (convOk_st hcv hst hkind)
  obtain rfl:=hu.sc
  have hrun:=Lib.run_convert_string_bytes (P:=Tryz.prog) w t0 t e b hd0 (ty_slice ht he) (ty_int hke hkk)
  have hb:Below w.heap.size w (Lib.bytesWorld w e b):=⟨rfl,rfl,rfl,by rw [Lib.bytesWorld_size];omega,fun k hk=>Lib.bytesWorld_at_old w e b k hk⟩
  have hk:Keeps I w (Lib.bytesWorld w e b):=fun b k hbk i _=>hb.cell (p:=⟨b,i,none⟩) (h.lt b k hbk).1
  have h4:=h.grow hb (I':=fun b k=>I b k ∨ b = w.heap.size) (fun _ _ h=>.inl h) (fun b k hk=>by
   rcases hk with hk | rfl
   ·exact .inl hk
   ·exact .inr ⟨Nat.le_refl _,by rw [Lib.bytesWorld_size];omega⟩)
  have hlen:(rowsB b).length = b.size:=by unfold rowsB;rw [List.length_map];rfl
  refine ⟨_,_,_,_,hrun,h4,.d ?_,hK⟩
  rw [show b.size = (rowsB b).length from hlen.symm]
  refine .sl _ 0 _ _ (rowsB b) (b.data.toList.map fun c=>.int .u8 (c.toNat:Int)) (by rw [hlen];exact grownCap_ge ..) ⟨_,Nat.le_refl _,.inr rfl⟩ (fun r hr=>?_) ?_ (fun i u hu=>?_) (fun i u d hu hd=>?_)
  ·unfold rowsB at hr
   obtain ⟨c,_,rfl⟩:=List.mem_map.1 hr
   rfl
  ·rw [List.length_map,hlen,Nat.mul_one];rfl
  ·rw [Nat.zero_add]
   have hi:i < b.size:=by have:=(List.getElem?_eq_some_iff.1 hu).1;rw [List.length_map] at this;exact this
   rw [Lib.bytesWorld_cell w e b i hi]
   rw [List.getElem?_map] at hu
   rw [List.getD_eq_getElem?_getD]
   cases hg:b.data.toList[i]? with
   | none=>rw [hg] at hu;cases hu
   | some c=>rw [hg] at hu;have hu:=Option.some.inj hu;rw [← hu];rfl
  ·have key:∀ l:List UInt8,∀ i:Nat,∀ u d,(l.map fun c=>Value.int .u8 (c.toNat:Int))[i]? = some u → (l.map fun c=>[D.sc (.int .u8 (c.toNat:Int))]).flatten[i]? = some d → AtD (fun b k=>I b k ∨ b = w.heap.size) (Lib.bytesWorld w e b) u d:=by
    intro l
    induction l with
    | nil=>intro i u d hu;simp at hu
    | cons c l ih =>
     intro i u d hu hd
     cases i with
     | zero=>simp at hu hd;subst hu;subst hd;exact .sc _ rfl
     | succ i=>exact ih i u d (by simpa using hu) (by simpa using hd)
   exact key _ i u d hu hd
theorem extract_ok (h:RelI I0 X w0 I g s a w) {K:V → Prop} {i:Nat} {u:Value} {x:V} (hu:AtV I w g u x) (hK:extractV K i x):Yld I0 X w0 g s a w (Instr.extract u i) K:=by
 unfold extractV at hK
 split at hK <;> try exact hK.elim
 rename_i vs
 split at hK <;> try exact hK.elim
 rename_i v hv
 have hi:=take1_is hv
 obtain ⟨us,rfl,h1⟩:=hu.untu
 have hlt:i < us.length:=by rw [h1.1];exact (List.getElem?_eq_some_iff.1 hi).1
 refine yld h (v:=us[i]) ?_ (h1.2 i _ _ (List.getElem?_eq_getElem hlt) hi) hK
 simp [Instr.extract,hlt]
theorem len_ok (h:RelI I0 X w0 I g s a w) {K:V → Prop} {t ty':Nat} (ht:tyKnown t = true) {u:Value} {x:V} (hu:AtV I w g u x) (hK:lenV real s.o K (ty t).kind x):Yld I0 X w0 g s a w (Builtin.len_ #[t] ty' #[u]) K:=by
 have hsl:(ty t).kind = .slice → ∃ e,Tryz.prog.underlying t = some (.slice e):=fun hk=>by
  have h2:=(tyOk t ht).under
  unfold kindOk at h2
  rw [hk] at h2
  obtain ⟨h3,h4⟩:=h2
  obtain ⟨e,he⟩:=Option.isSome_iff_exists.1 h4
  rw [he] at h3
  exact ⟨e,h3⟩
 have key:∀ A n cap,(∃ e,Tryz.prog.underlying t = some (.slice e)) → (Builtin.len_ #[t] ty' #[.slice A n cap]).run Tryz.prog w = .ok (.int .i64 n) w:=fun A n cap ⟨e,he⟩=>by
  simp [Builtin.len_,run_underlying he,goInt]
 unfold lenV at hK
 split at hK <;> try exact hK.elim
 rotate_left
 ·rename_i hk
  unfold lenT at hK
  split at hK <;> try exact hK.elim
  rename_i b
  obtain rfl:=hu.sc
  exact yld h (by simp [Builtin.len_,run_underlying (ty_str ht hk),goInt];rfl) (ati _ _) hK
 rename_i hk
 unfold lenS at hK
 split at hK <;> try exact hK.elim
 ·rename_i sz rows
  cases hu with
  | d h1 =>
   obtain ⟨A,cap,rfl,-⟩:=h1.slice
   exact yld h (key _ _ _ (hsl hk)) (ati _ _) hK
 ·cases hu
  exact yld h (key _ _ _ (hsl hk)) (ati _ _) hK
 ·rename_i k
  split at hK <;> try exact hK.elim
  rename_i z e rows ho
  obtain ⟨us,h1,_⟩:=h.obj k _ (getO_some ho (by simp))
  obtain ⟨A,cap,hg⟩:=own_slice h1
  cases hu with
  | own k A' n cap' hg' =>
   rw [own_gv h1,hg] at hg'
   injection hg' with e1 e2 e3
   subst e1;subst e2;subst e3
   exact yld h (key _ _ _ (hsl hk)) (ati _ _) hK
 ·obtain ⟨b,cap,hg,rfl,hle⟩:=hu.unbs
  exact yld h (key _ _ _ (hsl hk)) (ati _ _) hK
theorem sget_ok (h:RelI I0 X w0 I g s a w) {K:V → Prop} {t:Nat} (ht:tyKnown t = true) (htv:(ty t).kind = .array → ∀ e,(ty t).val = some e → tyKnown e = true) {u v:Value} {x i:V} (hu:AtV I w g u x) (hv:AtV I w g v i) (hK:indexV real K t x i):Yld I0 X w0 g s a w (Instr.index t u v) K:=by
 unfold indexV at hK
 split at hK <;> try exact hK.elim
 ·rename_i cs k n
  split at hK <;> try exact hK.elim
  rename_i hkd
  split at hK <;> try exact hK.elim
  rename_i e he
  split at hK <;> try exact hK.elim
  rename_i j hj
  split at hK <;> try exact hK.elim
  rename_i l hl
  split at hK <;> try exact hK.elim
  rename_i y hy
  have hun:=ty_array ht hkd he
  have hke:=htv hkd e he
  obtain rfl:=hv.sc
  obtain ⟨us,rfl,h7⟩:=hu.unag
  have hn:(0 ≤ n ∧ n < ((ty t).alen:Int)) ∧ n.toNat = j:=by
   simp only [real] at hj
   split at hj
   ·rename_i h1;injection hj with hj;exact ⟨h1,hj⟩
   ·cases hj
  obtain ⟨hn,rfl⟩:=hn
  rw [dropN_is] at hl
  obtain ⟨e1,he1⟩:=takeN_is hl
  have hul:AtVs I w g ((us.drop (n.toNat * (ty e).sz)).take (ty e).sz) l:=by rw [e1];exact (h7.drop _).take _
  obtain ⟨hx,hone⟩:=pack_at hul hy
  refine yld h ?_ hx hK
  simp only [Instr.index,asIntOf,Sem.run_bind,Sem.run_pure,run_underlying hun,Result.andThen_ok,if_pos hn,part,ty_size hke,ty_agg hke]
  cases hag:(ty e).agg with
  | true =>
   have hsz:=ty_size hke w
   simp [hsz]
  | false =>
   have hlen:=hone hag
   simp only [Bool.false_eq_true,if_false]
   have hlt:n.toNat * (ty e).sz < us.length:=by
    rw [List.length_take,List.length_drop] at hlen
    omega
   have:us.toArray[n.toNat * (ty e).sz]? = some (((us.drop (n.toNat * (ty e).sz)).take (ty e).sz).getD 0 undef):=by
    simp only [List.getElem?_toArray,List.getD_eq_getElem?_getD,List.getElem?_take,List.getElem?_drop,Nat.add_zero]
    have hsz:0 < (ty e).sz:=by rw [List.length_take] at hlen;omega
    rw [if_pos hsz,List.getElem?_eq_getElem hlt]
    rfl
   rw [this]
   rfl
 rename_i b k n
 split at hK <;> try exact hK.elim
 rename_i hk
 split at hK <;> try exact hK.elim
 rename_i c hc
 obtain rfl:=hu.sc
 obtain rfl:=hv.sc
 have hs:(if 0 ≤ n then b[n.toNat]? else none).map (fun c=>(c.toNat:Int)) = some c:=by
  simp only [real] at hc
  split at hc
  ·rw [if_pos (by assumption)];exact hc
  ·cases hc
 cases hx:(if 0 ≤ n then b[n.toNat]? else none) with
 | none=>rw [hx] at hs;cases hs
 | some y =>
  rw [hx] at hs
  injection hs with hs
  subst hs
  exact yld h (by simp [Instr.index,asIntOf,run_underlying (ty_str ht hk),hx]) (ati _ _) hK
theorem foldl_splice:∀ (vs:List Value) (j:Nat) (cs:Array Value) (off:Nat),off + j + vs.length ≤ cs.size →
  ((vs.zipIdx j).foldl (fun cs (c,j)=>cs.setIfInBounds (off + j) c) cs).toList = cs.toList.take (off + j) ++ vs ++ cs.toList.drop (off + j + vs.length)
 | [],j,cs,off,_=>by simp
 | v :: vs,j,cs,off,hl=>by
  have hl':off + j < cs.size:=by simp at hl;omega
  rw [List.zipIdx_cons,List.foldl_cons,foldl_splice vs (j + 1) _ off (by simp at hl ⊢;omega)]
  simp only [Array.toList_setIfInBounds,← Nat.add_assoc,List.length_cons]
  have hlt:off + j < cs.toList.length:=by simpa using hl'
  rw [List.set_eq_take_append_cons_drop,if_pos hlt]
  have h1:(cs.toList.take (off + j)).length = off + j:=by rw [List.length_take];omega
  have h2:(cs.toList.take (off + j) ++ v :: cs.toList.drop (off + j + 1)).take (off + j + 1) = cs.toList.take (off + j) ++ [v]:=by
   rw [List.take_append,h1,List.take_of_length_le (by omega),show off + j + 1 - (off + j) = 1 by omega]
   simp
  have h3:(cs.toList.take (off + j) ++ v :: cs.toList.drop (off + j + 1)).drop (off + j + 1 + vs.length) = cs.toList.drop (off + j + (vs.length + 1)):=by
   rw [List.drop_append,h1,List.drop_of_length_le (by omega),show off + j + 1 + vs.length - (off + j) = vs.length + 1 by omega,List.nil_append,List.drop_succ_cons,List.drop_drop]
   congr 1
   omega
  rw [h2,h3]
  simp [Nat.add_assoc]
theorem fill_at (h:RelI I0 X w0 I g s a w) {place:List (Nat × Nat)}:∀ {ps:List (Nat × Operand)} {l r:List V} {us:List Value},AtVs I w g us l → fillV s.get place ps l = some r →
  ∃ us',Instr.fill (fun i=>place[i]?) us.toArray (ps.map fun p=>(p.1,a.eval p.2)) = some us'.toArray ∧ AtVs I w g us' r
 | [],l,r,us,hu,hf=>by
  rw [fillV] at hf
  injection hf with hf
  subst hf
  exact ⟨us,rfl,hu⟩
 | (i,x) :: ps,l,r,us,hu,hf=>by
  rw [fillV] at hf
  split at hf <;> try cases hf
  rename_i off sz hp
  split at hf <;> try cases hf
  rename_i cs hcs
  split at hf <;> try cases hf
  rename_i hsz
  split at hf <;> try cases hf
  rename_i l' hl'
  rw [eqN_is,lenL_is] at hsz
  obtain ⟨vs,hv1,hv2,hv3⟩:=cells_at (h.get x) hcs
  obtain ⟨e,hle⟩:=splice_is hl'
  have hlen:off + vs.length ≤ us.length:=by rw [hv2.1,hu.1];exact hle
  obtain ⟨us',h1,h2⟩:=fill_at h (hu.splice hv2 hl') hf
  refine ⟨us',?_,h2⟩
  rw [List.map_cons,Instr.fill]
  simp only [take1_is hp]
  have hsize:(a.eval x).cells.size = sz:=by rw [hv1];simp [hv2.1,hsz]
  rw [if_neg (by
   rw [hsize]
   have:vs.length = sz:=by rw [hv2.1,hsz]
   simp
   omega)]
  rw [← h1]
  congr 1
  apply Array.ext'
  have:=foldl_splice vs 0 us.toArray off (by simpa using hlen)
  simp only [Nat.add_zero] at this
  rw [hv1]
  simpa using this
theorem mapM_of_map {α:Type} (o:α → Nat) (sz:α → Option Nat):∀ (l:List α) (m:List (Nat × Nat)),l.map (fun f=>(o f,sz f)) = m.map (fun x=>(x.1,some x.2)) → l.mapM (fun f=>(sz f).map fun i=>(o f,i)) = some m
 | [],[],_=>rfl
 | [],_ :: _,h=>by cases h
 | _ :: _,[],h=>by cases h
 | f :: l,(y1,y2) :: m,h=>by
  rw [List.map_cons,List.map_cons] at h
  injection h with h1 h2
  injection h1 with h1 h3
  simp only at h3 h1
  rw [List.mapM_cons,mapM_of_map o sz l m h2,h3,h1]
  rfl
theorem places_get {sz:Nat}:∀ {n off i:Nat} {p:Nat × Nat},(places sz n off)[i]? = some p → p = (off + i * sz,sz)
 | 0,off,i,p,h=>by simp [places] at h
 | n + 1,off,0,p,h=>by simp [places] at h;simp [← h]
 | n + 1,off,i + 1,p,h=>by
  have:=places_get (n:=n) (off:=off + sz) (i:=i) (p:=p) (by simpa [places] using h)
  rw [this,Nat.succ_mul]
  congr 1
  omega
theorem fill_more {place place':Nat → Option (Nat × Nat)} (hp:∀ i p,place i = some p → place' i = some p):∀ {ps:List (Nat × Value)} {l r:Array Value},Instr.fill place l ps = some r → Instr.fill place' l ps = some r
 | [],l,r,h=>h
 | (i,v) :: ps,l,r,h=>by
  rw [Instr.fill] at h ⊢
  split at h
  ·cases h
  ·rename_i off size hpi
   rw [hp _ _ hpi]
   simp only
   split at h
   ·cases h
   ·rename_i hc
    rw [if_neg hc]
    exact fill_more hp h
theorem build_ok (h:RelI I0 X w0 I g s a w) {K:V → Prop} {t:Nat} (ht:tyKnown t = true) (htv:(ty t).kind = .array → ∀ e,(ty t).val = some e → tyKnown e = true) (ps:Array (Nat × Operand)) (hK:buildV s.get K t ps.toList):Yld I0 X w0 g s a w (Instr.build t (ps.map fun p=>(p.1,a.eval p.2))) K:=by
 unfold buildV at hK
 split at hK <;> try exact hK.elim
 ·rename_i hk
  split at hK <;> try exact hK.elim
  rename_i l hl
  obtain ⟨us',h1,h2⟩:=fill_at h (constL_at (ty t).zero) hl
  refine yld h ?_ (atV_ag h2) hK
  refine run_build w t _ _ ?_
  obtain ⟨x,z,hi,hs,hz,hc,_⟩:=ty_info ht
  obtain ⟨fs,hu,hf1,hf2⟩:=ty_struct ht hk
  have hpl:fs.toList.mapM (fun f=>(Tryz.prog.info? f.type).map fun i=>(f.offset,i.size)) = some (ty t).flds:=by
   have hm:=mapM_of_map _ _ _ _ hf1
   simp only [Option.map_map] at hm
   exact hm
  simp only [Program.built,hi,hu,hz,hpl,hc]
  rw [Array.toList_map]
  simpa using h1
 ·rename_i hk
  split at hK <;> try exact hK.elim
  rename_i e he
  split at hK <;> try exact hK.elim
  rename_i l hl
  obtain ⟨us',h1,h2⟩:=fill_at h (constL_at (ty t).zero) hl
  refine yld h ?_ (atV_ag h2) hK
  obtain ⟨z,hz,hzc⟩:=ty_zero ht w
  have hun:=ty_array ht hk he
  have hpl:∀ i p,(places (ty e).sz (ty t).alen 0)[i]? = some p → p = (i * (ty e).sz,(ty e).sz):=fun i p hp=>by
   have:=places_get hp
   simpa using this
  have h3:=fill_more (place':=fun i=>some (i * (ty e).sz,(ty e).sz)) (fun i p hp=>by rw [hpl i p hp]) h1
  rw [← hzc] at h3
  simp only [Instr.build,Sem.run_bind,hz,Result.andThen_ok,run_underlying hun,ty_size (htv hk e he),Array.toList_map]
  rw [h3]
  rfl
theorem min_ok (h:RelI I0 X w0 I g s a w) {K:V → Prop} {mx:Bool} {ts:Array TypeId} {ty':Nat} {us:List Value} {xs:List V} (hu:AtVs I w g us xs) (hK:minV real K mx xs):Yld I0 X w0 g s a w (if mx = true then Builtin.max_ ts ty' us.toArray else Builtin.min_ ts ty' us.toArray) K:=by
 unfold minV at hK
 split at hK <;> try exact hK.elim
 rename_i k m k' n
 obtain ⟨u,us,rfl,h1,h2⟩:=hu.uncons
 obtain ⟨v,us,rfl,h3,h4⟩:=h2.uncons
 rw [h4.unnil]
 obtain rfl:=h1.sc
 obtain rfl:=h3.sc
 split at hK <;> try exact hK.elim
 cases mx with
 | true =>
  refine yld h ?_ (ati k _) hK
  simp only [Builtin.max_,if_true,List.foldlM,Builtin.max2,real]
  by_cases hlt:m < n
  ·simp [hlt]
  ·simp [hlt]
 | false =>
  refine yld h ?_ (ati k _) hK
  simp only [Builtin.min_,Bool.false_eq_true,if_false,List.foldlM,Builtin.min2,real]
  by_cases hlt:n < m
  ·simp [hlt]
  ·simp [hlt]
theorem nn_ok (h:RelI I0 X w0 I g s a w) {K:V → Prop} {v:Value} {x:V} (hv:AtV I w g v x) (hK:nnV K x):K x ∧ (∀ f,v ≠ .func (.method f) #[] #[]) ∧ ((∃ a,v = .pointer (some a)) ∨ ∃ f cs,v = .func (.func f) #[] cs):=by
 unfold nnV at hK
 split at hK <;> try exact hK.elim
 ·obtain ⟨b,_,rfl⟩:=hv.unptr
  exact ⟨hK,by simp,.inl ⟨_,rfl⟩⟩
 ·cases hv
  exact ⟨hK,by simp,.inr ⟨_,_,rfl⟩⟩
 ·cases hv
  exact ⟨hK,by simp,.inl ⟨_,rfl⟩⟩
 ·cases hv
  exact ⟨hK,by simp,.inl ⟨_,rfl⟩⟩
end
end
section
section
variable {I0:Nat → Nat → Prop} {X:Nat → Prop} {w0:W0} {I:Nat → Nat → Prop} {g:Nat → Value} {s:S} {a:Act} {w:World}
theorem chunks_is {sz:Nat}:∀ {n:Nat} {l:List D} {rows:List (List D)},chunks sz n l = some rows → rows.flatten = l ∧ rows.length = n ∧ ∀ r ∈ rows,r.length = sz
 | 0,[],rows,h=>by rw [chunks] at h;injection h with h;subst h;simp
 | 0,_ :: _,rows,h=>by rw [chunks] at h;cases h
 | n + 1,l,rows,h=>by
  rw [chunks] at h
  split at h <;> try cases h
  rename_i r hr
  split at h <;> try cases h
  rename_i rs hrs
  obtain ⟨h1,h2,h3⟩:=chunks_is hrs
  obtain ⟨h4,h5⟩:=takeN_is hr
  rw [dropN_is] at h1
  refine ⟨?_,by simp [h2],fun x hx=>?_⟩
  ·rw [List.flatten_cons,h1,h4];simp
  ·rcases List.mem_cons.1 hx with rfl | hx
   ·exact h5
   ·exact h3 x hx
theorem zeros_at {us:List Value} {z:List V} (hz:AtVs I w g us z):∀ (n:Nat) {vs:List Value} {acc:List V},AtVs I w g vs acc → AtVs I w g ((List.replicate n us).flatten ++ vs) (zeros z n acc)
 | 0,vs,acc,h=>by simpa [zeros] using h
 | n + 1,vs,acc,h=>by
  rw [zeros]
  have:=zeros_at hz n (hz.append h)
  rw [List.replicate_succ',List.flatten_append]
  simpa using this
theorem range_zero (z:Array Value) (n:Nat):((Array.range (n * z.size)).map fun i=>z[i % z.size]!).toList = (List.replicate n z.toList).flatten:=by
 apply List.ext_getElem?
 intro i
 have hrl:∀ r ∈ List.replicate n z.toList,r.length = z.size:=fun r hr=>by rw [(List.mem_replicate.1 hr).2];simp
 by_cases hi:i < n * z.size
 ·have hz:0 < z.size:=by
   rcases Nat.eq_zero_or_pos z.size with h | h
   ·rw [h,Nat.mul_zero] at hi;omega
   ·exact h
  have hq:i / z.size < n:=Nat.div_lt_of_lt_mul (by rw [Nat.mul_comm];exact hi)
  have hm:i % z.size < z.size:=Nat.mod_lt _ hz
  have e:=flat_get hrl (i:=i / z.size) (j:=i % z.size) (r:=z.toList) (by rw [List.getElem?_replicate,if_pos hq]) hm
  rw [Nat.div_add_mod' i z.size] at e
  rw [e]
  simp [hi,hm,Array.getElem?_eq_getElem]
 ·rw [List.getElem?_eq_none (by simp;omega),List.getElem?_eq_none (by rw [flat_len hrl];simp;omega)]
theorem buildSlice_run (h:RelI I0 X w0 I g s a w) {K:V → Prop} {t n:Nat} (ht:tyKnown t = true) (hte:∀ e,(ty t).elem = some e → tyKnown e = true ∧ n * (ty e).sz ≤ 16777216) (ps:Array (Nat × Operand)) (hK:buildSliceV s.get s.o K t n ps.toList) :
  ∃ e rows us,(ty t).elem = some e ∧ tyKnown e = true ∧ (Instr.buildSlice t n (ps.map fun p=>(p.1,a.eval p.2))).run Tryz.prog w = .ok (.slice (some ⟨w.heap.size,0,none⟩) n n) (w.alloc (.cells us.toArray e)) ∧ us.length = n * (ty e).sz ∧ rows.length = n ∧ (∀ r ∈ rows,r.length = (ty e).sz) ∧ AtDs I w us rows.flatten ∧ K (.d (.sl (ty e).sz rows)):=by
 unfold buildSliceV at hK
 split at hK <;> try exact hK.elim
 rename_i e he
 split at hK <;> try exact hK.elim
 rename_i n
 split at hK <;> try exact hK.elim
 rename_i l hl
 split at hK <;> try exact hK.elim
 rename_i ds hds
 split at hK <;> try exact hK.elim
 rename_i rows hrows
 obtain ⟨hke,hsz⟩:=hte e he
 have hun:=ty_slice ht he
 obtain ⟨z,hz,hzc⟩:=ty_zero hke w
 obtain ⟨_,_,_,_,_,_,hzl,_⟩:=ty_info hke
 have hz0:=zeros_at (I:=I) (w:=w) (g:=g) (constL_at (ty e).zero) (n + 1) (.nil I w g)
 rw [List.append_nil] at hz0
 have hpl:∀ (m off i:Nat) (p:Nat × Nat),(places (ty e).sz m off)[i]? = some p → p = (off + i * (ty e).sz,(ty e).sz):=by
  intro m
  induction m with
  | zero=>intro off i p hp;simp [places] at hp
  | succ m ih =>
   intro off i p hp
   cases i with
   | zero=>simp [places] at hp;rw [← hp];simp
   | succ i =>
    have:=ih (off + (ty e).sz) i p (by simpa [places] using hp)
    rw [this,Nat.succ_mul]
    exact Prod.ext (by simp only;omega) rfl
 obtain ⟨us',h1,h2⟩:=fill_at h hz0 hl
 have hfill:∀ (ps:List (Nat × Value)) (cs r:Array Value),Instr.fill (fun i=>(places (ty e).sz (n + 1) 0)[i]?) cs ps = some r → Instr.fill (fun i=>some (i * (ty e).sz,(ty e).sz)) cs ps = some r:=by
  intro ps
  induction ps with
  | nil=>intro cs r hr;exact hr
  | cons p ps ih =>
   intro cs r hr
   obtain ⟨i,v⟩:=p
   rw [Instr.fill] at hr ⊢
   cases hp:(places (ty e).sz (n + 1) 0)[i]? with
   | none=>rw [hp] at hr;cases hr
   | some q =>
    rw [hp] at hr
    have:=hpl _ _ _ _ hp
    rw [Nat.zero_add] at this
    subst this
    simp only at hr ⊢
    split at hr
    ·cases hr
    ·rename_i hc
     rw [if_neg hc]
     exact ih _ _ hr
 have h3:=hfill _ _ _ h1
 have hcell:((Array.range ((n + 1) * (ty e).sz)).map fun i=>((if (n + 1) * (ty e).sz = 0 then #[] else z.cells):Array Value)[i % ((if (n + 1) * (ty e).sz = 0 then #[] else z.cells):Array Value).size]!) = ((List.replicate (n + 1) (ty e).zero).flatten).toArray:=by
  apply Array.ext'
  by_cases hs0:(n + 1) * (ty e).sz = 0
  ·have:(ty e).sz = 0:=by rcases Nat.mul_eq_zero.1 hs0 with h | h <;> omega
   rw [this] at hzl
   have hnil:(ty e).zero = []:=List.eq_nil_of_length_eq_zero hzl
   rw [hs0,hnil]
   simp
  ·rw [if_neg hs0,hzc]
   have:=range_zero (ty e).zero.toArray (n + 1)
   simp only [List.size_toArray,hzl] at this
   simpa [hzl] using this
 have hdat:=toDs_at h h2 hds
 obtain ⟨hfl,hrl,hr1⟩:=chunks_is hrows
 have hrun:(Instr.buildSlice t (n + 1) (ps.map fun p=>(p.1,a.eval p.2))).run Tryz.prog w = .ok (.slice (some ⟨w.heap.size,0,none⟩) (n + 1) (n + 1)) (w.alloc (.cells us'.toArray e)):=by
  have hsz':(n + 1) * (ty e).sz ≤ 16777216:=hsz
  have hbig:¬ (n + 1) * (ty e).sz > 16777216:=by omega
  have hsize:=ty_size hke w
  by_cases hs0:(n + 1) * (ty e).sz = 0
  ·rw [if_pos hs0] at hcell
   simp only [Instr.buildSlice,Sem.run_bind,run_underlying hun,Result.andThen_ok,hsize,Sem.run_ite,Sem.run_pure]
   rw [if_neg (by omega),if_pos hs0]
   simp only [Result.andThen_ok,hcell,Array.toList_map,h3]
   rfl
  ·rw [if_neg hs0] at hcell
   simp only [Instr.buildSlice,Sem.run_bind,run_underlying hun,Result.andThen_ok,hsize,Sem.run_ite,Sem.run_pure]
   rw [if_neg (by omega),if_neg hs0]
   simp only [Sem.run_bind,hz,Result.andThen_ok,Sem.run_pure,hcell,Array.toList_map,h3]
   rfl
 exact ⟨e,rows,us',he,hke,hrun,by rw [hdat.1,← hfl,flat_len hr1,hrl],hrl,hr1,by rw [hfl];exact hdat,hK⟩
theorem buildSlice_ok (h:RelI I0 X w0 I g s a w) {K:V → Prop} {t n:Nat} (ht:tyKnown t = true) (hte:∀ e,(ty t).elem = some e → tyKnown e = true ∧ n * (ty e).sz ≤ 16777216) (ps:Array (Nat × Operand)) (hK:buildSliceV s.get s.o K t n ps.toList) :
  Yld I0 X w0 g s a w (Instr.buildSlice t n (ps.map fun p=>(p.1,a.eval p.2))) K:=by
 obtain ⟨e,rows,us',he,hke,hrun,hl,hrl,hr1,hdat,hK⟩:=buildSlice_run h ht hte ps hK
 have hb:Below w.heap.size w (w.alloc (.cells us'.toArray e)):=(Below.refl _ _).alloc (Nat.le_refl _) _
 have hk:Keeps I w (w.alloc (.cells us'.toArray e)):=fun b k hbk i _=>hb.cell (p:=⟨b,i,none⟩) (h.lt b k hbk).1
 have h4:=h.grow hb (I':=fun b k=>I b k ∨ b = w.heap.size) (fun _ _ h=>.inl h) (fun b k hk=>by
  rcases hk with hk | rfl
  ·exact .inl hk
  ·exact .inr ⟨Nat.le_refl _,by simp⟩)
 refine ⟨_,_,_,_,hrun,h4,.d ?_,hK⟩
 rw [← hrl]
 refine .sl _ 0 _ _ rows us' (Nat.le_refl _) ⟨_,Nat.le_refl _,.inr rfl⟩ hr1 ?_ (fun i u hu=>?_) (fun i u d hu hd=>?_)
 ·rw [hl,hrl]
 ·rw [Nat.zero_add,World.cell?_alloc_new]
  simpa using hu
 ·exact (hdat.2 i u d hu hd).mono (fun _ _ h=>.inl h) hk
theorem bound_at (h:RelI I0 X w0 I g s a w) {n l:Int} {lo:Option Operand} (hb:bound n (getOpt s.get lo) = some l):(lo.map a.eval = none ∧ l = n) ∨ ∃ k,lo.map a.eval = some (.int k l):=by
 cases lo with
 | none =>
  simp only [getOpt,bound,Option.some.injEq] at hb
  exact .inl ⟨rfl,hb.symm⟩
 | some x =>
  simp only [getOpt] at hb
  have hx:=h.get x
  generalize s.get x = y at *
  cases y with
  | d z =>
   cases z with
   | sc v =>
    cases v <;> first | (simp [bound] at hb;done) | skip
    rename_i k m
    simp only [bound,Option.some.injEq] at hb
    subst hb
    exact .inr ⟨k,by rw [Option.map_some,hx.sc]⟩
   | sl sz rows=>simp [bound] at hb
  | _=>simp [bound] at hb
theorem bounds_run (isSlice:Bool) (len cap:Nat) (lo hi:Option Value) (l h:Int) (hlo:(lo = none ∧ l = 0) ∨ ∃ k,lo = some (.int k l)) (hhi:(hi = none ∧ h = len) ∨ ∃ k,hi = some (.int k h)) (h0:0 ≤ l) (h1:l ≤ h) (h2:h ≤ cap) :
  (Instr.sliceBounds isSlice len cap lo hi none).run Tryz.prog w = .ok (l.toNat,h.toNat,cap) w:=by
 have e1:((h.toNat:Nat):Int) = h:=Int.toNat_of_nonneg (by omega)
 have e2:0 ≤ h:=by omega
 rcases hlo with ⟨rfl,rfl⟩ | ⟨k,rfl⟩ <;> rcases hhi with ⟨rfl,rfl⟩ | ⟨k',rfl⟩ <;> simp [Instr.sliceBounds,run_sliceBound, *]
theorem slice_ok (h:RelI I0 X w0 I g s a w) {K:V → Prop} {t:Nat} (ht:tyKnown t = true) (hte:∀ e,(ty t).elem = some e → tyKnown e = true) {u:Value} {x:V} {lo hi:Option Operand} (hu:AtV I w g u x) (hK:sliceV real s.o K t x (getOpt s.get lo) (getOpt s.get hi)) :
  Yld I0 X w0 g s a w (Instr.sliceAt t u (lo.map a.eval) (hi.map a.eval) none) K:=by
 unfold sliceV at hK
 split at hK <;> try exact hK.elim
 rename_i l hl
 have hlo:=bound_at h hl
 split at hK <;> try exact hK.elim
 ·rename_i hk
  split at hK <;> try exact hK.elim
  rename_i b
  split at hK <;> try exact hK.elim
  rename_i hh hhb
  have hhi:=bound_at h hhb
  split at hK <;> try exact hK.elim
  rename_i c hc
  obtain rfl:=hu.sc
  have hun:=ty_str ht hk
  simp only [real] at hc
  split at hc <;> try cases hc
  rename_i hbd
  have hbr:=bounds_run (w:=w) false b.size b.size _ _ l hh hlo hhi hbd.1 hbd.2.1 hbd.2.2
  refine yld h ?_ (ats _) hK
  simp [Instr.sliceAt,Instr.slice,run_underlying hun,hbr]
 ·rename_i hk
  split at hK <;> try exact hK.elim
  rename_i e he
  split at hK <;> try exact hK.elim
  rename_i sz rows hr
  split at hK <;> try exact hK.elim
  rename_i hsz
  split at hK <;> try exact hK.elim
  rename_i hh hhb
  have hhi:=bound_at h hhb
  split at hK <;> try exact hK.elim
  rename_i rs hrs
  obtain ⟨h1,h1'⟩:=rows_at h hu hr
  have h2:=szOk_at hsz h1 h1'
  obtain ⟨A,cap,rfl,hcap,h3⟩:=h2.slice
  simp only [real] at hrs
  split at hrs <;> try cases hrs
  rename_i hbd
  have hun:=ty_slice ht he
  have hbr:=bounds_run (w:=w) true rows.length cap _ _ l hh hlo hhi hbd.1 hbd.2.1 (by omega)
  have hlen:((rows.drop l.toNat).take (hh.toNat - l.toNat)).length = hh.toNat - l.toNat:=by
   rw [List.length_take,List.length_drop];omega
  refine yld h (v:=sliced A l.toNat hh.toNat cap (ty e).sz) ?_ (.d ?_) hK
  ·simp [Instr.sliceAt,Instr.slice,run_underlying hun,hbr,ty_size (hte e he),sliced]
  ·unfold sliced
   by_cases hemp:hh.toNat - l.toNat = 0
   ·have:(rows.drop l.toNat).take (hh.toNat - l.toNat) = []:=by rw [hemp];simp
    rw [this,hemp]
    exact .nil _ _ _
   ·rcases h3 with rfl | ⟨b,off,us,rfl,hI,hrl,hul,hc,hd⟩
    ·simp at hbd;omega
    rw [if_neg (by omega)]
    have hsub:l.toNat * (ty e).sz + (hh.toNat - l.toNat) * (ty e).sz ≤ rows.length * (ty e).sz:=by rw [← Nat.add_mul];exact Nat.mul_le_mul_right _ (by omega)
    have hflat:((rows.drop l.toNat).take (hh.toNat - l.toNat)).flatten = (rows.flatten.drop (l.toNat * (ty e).sz)).take ((hh.toNat - l.toNat) * (ty e).sz):=by
     have e1:rows = rows.take l.toNat ++ ((rows.drop l.toNat).take (hh.toNat - l.toNat) ++ (rows.drop l.toNat).drop (hh.toNat - l.toNat)):=by rw [List.take_append_drop,List.take_append_drop]
     have f1:(rows.take l.toNat).flatten.length = l.toNat * (ty e).sz:=by
      rw [flat_len fun r hr=>hrl r (List.mem_of_mem_take hr),List.length_take,Nat.min_eq_left (by omega)]
     have f2:((rows.drop l.toNat).take (hh.toNat - l.toNat)).flatten.length = (hh.toNat - l.toNat) * (ty e).sz:=by
      rw [flat_len fun r hr=>hrl r (List.mem_of_mem_drop (List.mem_of_mem_take hr)),hlen]
     conv=>rhs;rw [e1]
     rw [List.flatten_append,List.flatten_append,← f1,List.drop_left,← f2,List.take_left]
    have hval:AtD I w (.slice (some ⟨b,off + l.toNat * (ty e).sz,none⟩) ((rows.drop l.toNat).take (hh.toNat - l.toNat)).length (cap - l.toNat)) (.sl (ty e).sz ((rows.drop l.toNat).take (hh.toNat - l.toNat))):=by
     refine .sl b _ _ _ _ ((us.drop (l.toNat * (ty e).sz)).take ((hh.toNat - l.toNat) * (ty e).sz)) (by rw [hlen];omega) (hI.down (by rw [hlen];omega)) (fun r hr=>hrl r (List.mem_of_mem_drop (List.mem_of_mem_take hr))) ?_ (fun i u hu=>?_) (fun i u d hu hdd=>?_)
     ·rw [hlen,List.length_take,List.length_drop,hul];omega
     ·rw [List.getElem?_take] at hu
      split at hu
      ·rw [List.getElem?_drop] at hu
       rw [Nat.add_assoc]
       exact hc _ _ hu
      ·cases hu
     ·rw [hflat,List.getElem?_take] at hdd
      rw [List.getElem?_take] at hu
      split at hu
      ·rename_i hi
       rw [if_pos hi,List.getElem?_drop] at hdd
       rw [List.getElem?_drop] at hu
       exact hd.2 _ _ _ hu hdd
      ·cases hu
    rw [hlen] at hval
    simpa [Addr.add_lit] using hval
 
theorem pick_ok (h:RelI I0 X w0 I g s a w) {K:V → Prop} {c u v:Value} {z x y:V} (hc:AtV I w g c z) (hu:AtV I w g u x) (hv:AtV I w g v y) (hK:pickV K x y z):Yld I0 X w0 g s a w (do pure (if ← asBool c then u else v)) K:=by
 unfold pickV at hK
 split at hK <;> try exact hK.elim
 rename_i b
 obtain rfl:=hc.sc
 cases b
 ·exact yld h (by simp [asBool]) hv hK
 ·exact yld h (by simp [asBool]) hu hK
end
end
section
section
variable {w:World}
def hit (r:R):List R → List MapEntry → Nat → Option (Nat × Value)
 | k :: ks,e :: es,i=>match rEq k r with | true=>some (i,e.val) | false=>hit r ks es (i + 1)
 | _,_,_=>none
theorem find_now {t:Nat} {d:TypeDesc} {r:R} (hd:Tryz.prog.underlying t = some d):∀ {ks:List R} {es:List MapEntry} (i:Nat),es.map (·.key) = ks.map rVal → (∀ k ∈ ks,KeyOk t r k w) → Instr.findNow d (rVal r) es i = some (hit r ks es i) ∨ Instr.findNow d (rVal r) es i = none
 | [],[],i,_,_=>.inl rfl
 | [],_ :: _,i,h,_=>by cases h
 | _ :: _,[],i,h,_=>by cases h
 | k :: ks,e :: es,i,h,hk=>by
  rw [List.map_cons,List.map_cons] at h
  injection h with h1 h2
  have h3:=(hk k (List.mem_cons_self ..)).now d hd
  have ih:=find_now hd (i + 1) h2 fun k hm=>hk k (List.mem_cons_of_mem _ hm)
  simp only [Instr.findNow,hit,h1]
  rcases h3 with h3 | h3
  ·rw [h3]
   cases rEq k r with
   | true=>exact .inl rfl
   | false=>exact ih
  ·rw [h3]
   exact .inr rfl
theorem find_ask {t:Nat} {r:R}:∀ {ks:List R} {es:List MapEntry} (i:Nat),es.map (·.key) = ks.map rVal → (∀ k ∈ ks,KeyOk t r k w) → (Instr.findAsking t (rVal r) es i).run Tryz.prog w = .ok (hit r ks es i) w
 | [],[],i,_,_=>rfl
 | [],_ :: _,i,h,_=>by cases h
 | _ :: _,[],i,h,_=>by cases h
 | k :: ks,e :: es,i,h,hk=>by
  rw [List.map_cons,List.map_cons] at h
  obtain ⟨h1,h2⟩:=List.cons.inj h
  have ih:=find_ask (t:=t) (i + 1) h2 fun k hm=>hk k (List.mem_cons_of_mem _ hm)
  rw [Instr.findAsking,hit,h1,Sem.run_bind,(hk k (List.mem_cons_self ..)).eq,Result.andThen_ok]
  cases hr:rEq k r with
  | true=>simp only [if_true,Sem.run_pure]
  | false=>simp only [Bool.false_eq_true,if_false];exact ih
theorem find_key {t:Nat} (ht:tyKnown t = true) {r:R} {ks:List R} {es:List MapEntry} (h:es.map (·.key) = ks.map rVal) (hk:∀ k ∈ ks,KeyOk t r k w):(Instr.findKey t (rVal r) es).run Tryz.prog w = .ok (hit r ks es 0) w:=by
 have hag:=(tyOk t ht).agg
 cases hu:Tryz.prog.underlying t with
 | none=>rw [hu] at hag;cases hag
 | some d =>
  simp only [Instr.findKey,Sem.run_bind,run_underlying hu,Result.andThen_ok]
  rcases find_now hu 0 h hk with h1 | h1
  ·rw [h1];rfl
  ·rw [h1];exact find_ask 0 h hk
end
section
variable {I0:Nat → Nat → Prop} {X:Nat → Prop} {w0:W0} {I:Nat → Nat → Prop} {g:Nat → Value} {s:S} {a:Act} {w:World}
theorem hit_is {kt:Nat} {r q:R}:∀ {l:List MapEntry} {es:List (R × R)} (i:Nat),AtEs I w kt l es →
  (∃ j e p,hit r (es.map (·.1)) l i = some (i + j,e.val) ∧ l[j]? = some e ∧ es[j]? = some p ∧ rEq p.1 r = true ∧ mget es r = some p.2 ∧ mset es r q = es.set j (p.1,q)) ∨ (hit r (es.map (·.1)) l i = none ∧ mget es r = none ∧ mset es r q = es ++ [(r,q)])
 | [],[],i,_=>.inr ⟨rfl,rfl,rfl⟩
 | [],_ :: _,i,h=>by have:=h.1;simp at this
 | _ :: _,[],i,h=>by have:=h.1;simp at this
 | e :: l,(k,v) :: es,i,h=>by
  have h':AtEs I w kt l es:=⟨by have:=h.1;simpa using this,fun j e p he hp=>h.2 (j + 1) e p (by simpa using he) (by simpa using hp)⟩
  simp only [List.map_cons,hit,mget,mset]
  cases hk:rEq k r with
  | true=>exact .inl ⟨0,e,(k,v),rfl,rfl,rfl,hk,rfl,rfl⟩
  | false =>
   rcases hit_is (q:=q) (i + 1) h' with ⟨j,e',p,h1,h2,h3,h4,h5,h6⟩ | ⟨h1,h2,h3⟩
   ·exact .inl ⟨j + 1,e',p,by rw [h1,Nat.add_assoc,Nat.add_comm 1 j],by simpa using h2,by simpa using h3,h4,h5,by rw [h6];rfl⟩
   ·exact .inr ⟨h1,h2,by rw [h3];rfl⟩
theorem es_keys {kt:Nat} {l:List MapEntry} {es:List (R × R)} (h:AtEs I w kt l es):l.map (·.key) = (es.map (·.1)).map rVal:=by
 refine List.ext_getElem? fun i=>?_
 simp only [List.getElem?_map]
 rcases Nat.lt_or_ge i l.length with hi | hi
 ·have hi':i < es.length:=by rw [← h.1];exact hi
  rw [List.getElem?_eq_getElem hi,List.getElem?_eq_getElem hi']
  obtain ⟨h1,_,h3⟩:=h.2 i _ _ (List.getElem?_eq_getElem hi) (List.getElem?_eq_getElem hi')
  exact congrArg some (key_val h1 h3)
 ·rw [List.getElem?_eq_none hi,List.getElem?_eq_none (by rw [← h.1];exact hi)]
  rfl
theorem es_keyOk {kt:Nat} (ht:tyKnown kt = true) (hf:∀ u ∈ (ty kt).fty,tyKnown u = true) {r:R} (hr:keyB kt r = true) {l:List MapEntry} {es:List (R × R)} (h:AtEs I w kt l es) (w':World):∀ k ∈ es.map (·.1),KeyOk kt r k w':=by
 intro k hk
 obtain ⟨p,hp,rfl⟩:=List.mem_map.1 hk
 obtain ⟨i,hi⟩:=List.mem_iff_getElem?.1 hp
 have hlt:i < l.length:=by rw [h.1];exact (List.getElem?_eq_some_iff.1 hi).1
 exact key_ok ht hf hr (h.2 i _ _ (List.getElem?_eq_getElem hlt) hi).2.2
theorem zero_at {e:Nat} (he:tyKnown e = true) {z:V} (hz:pack (ty e).agg (constL (ty e).zero) = some z):∃ v,(zeroValue e).run Tryz.prog w = .ok v w ∧ AtV I w g v z:=by
 obtain ⟨v,hv,hc⟩:=ty_zero he w
 refine ⟨v,hv,?_⟩
 have hag:=(tyOk e he).zag
 obtain ⟨x,z',h1,_,h3,_⟩:=ty_info he
 have hv':v = z':=by
  simp only [zeroValue,typeInfo,Sem.run_bind,run_program,Result.andThen_ok,h1,h3,Sem.run_pure] at hv
  exact (Result.ok.inj hv).1.symm
 rw [h1] at hag
 simp only [Option.bind_some,h3,Option.map_some,Option.some.injEq] at hag
 subst hv'
 cases hb:(ty e).agg with
 | true =>
  rw [hb] at hag hz
  rw [pack] at hz
  injection hz with hz
  subst hz
  cases v <;> first | cases hag | skip
  rename_i us
  simp only [Value.cells] at hc
  rw [hc]
  exact atV_ag (constL_at (ty e).zero)
 | false =>
  rw [hb] at hag hz
  have hs:v.cells = #[v]:=by cases v <;> first | rfl | cases hag
  rw [hs] at hc
  have hz0:(ty e).zero = [v]:=by
   have:=congrArg Array.toList hc
   simpa using this.symm
  rw [hz0] at hz
  have h4:=constL_at (I:=I) (w:=w) (g:=g) [v]
  rw [constL,constL] at hz h4
  rw [pack] at hz
  injection hz with hz
  subst hz
  exact h4.2 0 _ _ rfl rfl
theorem comma_ok (h:RelI I0 X w0 I g s a w) {K:V → Prop} {ok b:Bool} {v:Value} {x:V} {m:Sem Value} (hv:AtV I w g v x) (hm:m.run Tryz.prog w = .ok (if ok = true then .tuple #[v,.bool b] else v) w) (hK:commaV K ok b x):Yld I0 X w0 g s a w m K:=by
 cases ok with
 | true=>exact yld h hm (atV_tu (.cons hv (.cons (atb b) (.nil I w g)))) hK
 | false=>exact yld h hm hv hK
theorem keyV_at (h:RelI I0 X w0 I g s a w) {kt:Nat} {x:V} {u:Value} {r:R} (hu:AtV I w g u x) (hk:keyV s.o kt x = some r):AtR I w u r ∧ keyB kt r = true:=by
 unfold keyV at hk
 split at hk
 ·rename_i r' hr
  split at hk
  ·rename_i hb
   injection hk with hk
   subst hk
   exact ⟨toR_at h hu hr,hb⟩
  ·cases hk
 ·cases hk
theorem map_known {t kt e:Nat} (h:mapOk t = true) (hk:(ty t).key = some kt) (hv:(ty t).val = some e):tyKnown kt = true ∧ tyKnown e = true ∧ ∀ u ∈ (ty kt).fty,tyKnown u = true:=by
 unfold mapOk at h
 rw [hk,hv] at h
 simp only [Bool.and_eq_true] at h
 exact ⟨h.1.1,h.1.2,List.all_eq_true.1 h.2⟩
theorem look_ok (h:RelI I0 X w0 I g s a w) {K:V → Prop} {t:Nat} {ok:Bool} (ht:tyKnown t = true) (hm:mapOk t = true) {v u:Value} {x i:V} (hv:AtV I w g v x) (hu:AtV I w g u i) (hK:lookV real s.o K t ok x i):Yld I0 X w0 g s a w (Instr.lookup t v u ok) K:=by
 unfold lookV at hK
 split at hK <;> try exact hK.elim
 rename_i hkd
 split at hK <;> try exact hK.elim
 rename_i kt e hkt hve
 split at hK <;> try exact hK.elim
 rename_i r hr
 have hun:=ty_map ht hkd hkt hve
 obtain ⟨k1,k2,k3⟩:=map_known hm hkt hve
 obtain ⟨h1,h2⟩:=keyV_at h hu hr
 obtain rfl:=key_val h1 h2
 have hchk:=(key_ok k1 k3 h2 h2 (w:=w)).chk
 split at hK <;> try exact hK.elim
 ·rename_i k
  split at hK <;> try exact hK.elim
  rename_i kt' es ho
  split at hK <;> try exact hK.elim
  rename_i he
  obtain rfl:=eqN_is.1 he
  obtain ⟨b,l,c,g1,g2,g3,g4⟩:=h.obj k _ (getO_some ho (by simp))
  obtain ⟨b',hb',rfl⟩:=hv.unmp
  rw [g1] at hb'
  injection hb' with hb'
  injection hb' with hb'
  subst hb'
  have hfind:=find_key k1 (es_keys g3) (es_keyOk k1 k3 h2 g3 w)
  have hget:real.mlook es r = mget es r:=rfl
  rw [hget] at hK
  rcases hit_is (r:=r) (q:=r) 0 g3 with ⟨j,en,p,e1,e2,e3,e4,e5,_⟩ | ⟨e1,e5,_⟩
  ·rw [e5] at hK
   rw [e1] at hfind
   obtain ⟨_,hval,_⟩:=g3.2 j _ _ e2 e3
   refine comma_ok h (resR_at g hval) ?_ hK
   cases ok <;> simp [Instr.lookup,run_underlying hun,MapKept.run_getObj_map g2,hchk,hfind,Result.andThen]
  ·rw [e5] at hK
   rw [e1] at hfind
   simp only [zeroK] at hK
   split at hK <;> try exact hK.elim
   rename_i z hz
   obtain ⟨zv,z1,z2⟩:=zero_at (I:=I) (g:=g) (w:=w) k2 hz
   refine comma_ok h z2 ?_ hK
   cases ok <;> simp [Instr.lookup,run_underlying hun,MapKept.run_getObj_map g2,hchk,hfind,z1,Result.andThen]
 ·have:=hv.sc
  subst this
  simp only [zeroK] at hK
  split at hK <;> try exact hK.elim
  rename_i z hz
  obtain ⟨zv,z1,z2⟩:=zero_at (I:=I) (g:=g) (w:=w) k2 hz
  refine comma_ok h z2 ?_ hK
  have hfind:=find_key k1 (w:=w) (r:=r) (ks:=[]) (es:=[]) rfl (by simp)
  cases ok <;> simp [Instr.lookup,run_underlying hun,hchk,hfind,hit,z1,Result.andThen]
theorem dEq_eq {k:TK} {x y:D} (hx:scalarB k x = true) (hy:scalarB k y = true) (h:dEq x y = true):x = y:=by
 rcases scal_inv hx with ⟨q,m,hk,rfl⟩ | ⟨m,hk,rfl⟩ | ⟨m,hk,rfl⟩ <;> rcases scal_inv hy with ⟨q',n,hk',rfl⟩ | ⟨n,hk',rfl⟩ | ⟨n,hk',rfl⟩ <;> rw [hk] at hk' <;> first | cases hk';done | skip
 ·have hk':=TK.int.inj hk'
  subst hk'
  rw [dEq,intEq_is,beq_iff_eq] at h
  rw [h]
 ·rw [dEq,bytesEq_is,beq_iff_eq] at h
  obtain ⟨⟨x⟩⟩:=m
  obtain ⟨⟨y⟩⟩:=n
  simp only at h
  rw [h]
 ·rw [dEq,bEq_is,beq_iff_eq] at h
  rw [h]
theorem dsEq_eq:∀ {xs ys:List D} {us:List Nat} {fs:List (Nat × Nat)} {n:Nat},scalarsB us fs n xs = true → scalarsB us fs n ys = true → dsEq xs ys = true → xs = ys
 | [],[],us,fs,n,_,_,_=>rfl
 | [],_ :: _,us,fs,n,_,_,h=>by cases h
 | _ :: _,[],us,fs,n,_,_,h=>by cases h
 | x :: xs,y :: ys,us,fs,n,hx,hy,h=>by
  rw [dsEq] at h
  split at h
  ·rename_i h1
   unfold scalarsB at hx
   split at hx
   ·contradiction
   ·rename_i u us off fs' n' d ds e3
    obtain ⟨e1,e2⟩:=List.cons.inj e3
    subst e1;subst e2
    rw [scalarsB] at hy
    split at hx
    ·rename_i e
     rw [e] at hy
     simp only at hy
     split at hx
     ·rename_i h2
      split at hy
      ·rename_i h3
       rw [dEq_eq h2 h3 h1,dsEq_eq hx hy h]
      ·cases hy
     ·cases hx
    ·cases hx
   ·cases hx
  ·cases h
theorem rEq_eq {t:Nat} {x y:R} (hx:keyB t x = true) (hy:keyB t y = true) (h:rEq x y = true):x = y:=by
 cases x with
 | one x =>
  cases y with
  | one y=>rw [dEq_eq hx hy h]
  | ag ys=>cases h
 | ag xs =>
  cases y with
  | one y=>cases h
  | ag ys =>
   rw [keyB] at hx hy
   split at hx
   ·rename_i hk
    rw [hk] at hy
    simp only at hy
    split at hx
    ·rename_i hk
     rw [hk] at hy
     rw [dsEq_eq hx hy h]
    ·cases hx
   ·cases hx
theorem RelI.setMap (h:RelI I0 X w0 I g s a w) {k kt b c c':Nat} {es es':List (R × R)} {l l':Array MapEntry} (hk:s.o[k]? = some (.mp kt es)) (hg:g k = .map (some b)) (hb:w.heap[b]? = some (.map l c)) (hI:∀ h,¬ I b h) (hM:Mine X w0 b) (hes:AtEs I w kt l'.toList es') :
  RelI I0 X w0 I g ⟨s.t,s.o.set k (.mp kt es')⟩ a (ChangeMaps.setBlock w b (.map l' c')):=by
 have hblk:gbl (g k) b:=by rw [hg];rfl
 have hlk:live s k:=⟨_,hk,by simp⟩
 obtain ⟨hs1,hs2⟩:=MapKept.heap_set (o':=.map l' c') hb
 have hsz:(ChangeMaps.setBlock w b (.map l' c')).heap.size = w.heap.size:=by simp [ChangeMaps.setBlock]
 have hkp:Keeps I w (ChangeMaps.setBlock w b (.map l' c')):=fun b' h' hi i _=>by
  refine blk_cell (hs2 b' fun e=>?_) i
  subst e
  exact hI _ hi
 refine ⟨h.im,fun b' h' hi=>by rw [hsz];exact h.lt b' h' hi,?_,h.kp.trans fun b k hbk i hi=>hkp b k (h.im b k hbk) i hi,by simpa using h.lo,h.st,fun j o hj=>?_,fun i j b' hi hj=>h.dis i j b' (live_set hk (by simp) hi) (live_set hk (by simp) hj),fun j hj=>h.out j (by simpa using hj),h.tmp.mono (fun _ _ h=>h) hkp,h.dfr⟩
 ·refine ⟨h.fr.os,h.fr.tape,h.fr.output,by rw [hsz];exact h.fr.size,fun b' hb' hX=>?_⟩
  refine (hs2 b' fun e=>?_).trans (h.fr.block b' hb' hX)
  subst e
  rcases hM with hM | hM
  ·omega
  ·exact hX hM
 ·by_cases e:k = j
  ·subst e
   have hlt:k < s.o.length:=(List.getElem?_eq_some_iff.1 hk).1
   simp only [List.getElem?_set_self hlt] at hj
   have hj:=Option.some.inj hj
   subst hj
   exact ⟨b,l',c',hg,hs1,hes.mono (fun _ _ h=>h) hkp,hI,hM⟩
  ·simp only [List.getElem?_set_ne e] at hj
   have ho:=h.obj j o hj
   by_cases hd:o = .dead
   ·subst hd;exact True.intro
   ·refine ho.keep (fun _ _ h=>h) hkp (fun b' hb'=>hs2 b' fun e'=>?_) fun _ _ _ h=>h
    subst e'
    exact e (h.dis k j _ hlk ⟨o,hj,hd⟩ hblk hb')
theorem put_ok (h:RelI I0 X w0 I g s a w) {K:S → Prop} {t:Nat} (ht:tyKnown t = true) (hm:mapOk t = true) {v u q:Value} {x i y:V} (hv:AtV I w g v x) (hu:AtV I w g u i) (hq:AtV I w g q y) (hK:putV real s K t x i y):∃ w' s',(Instr.mapUpdate t v u q).run Tryz.prog w = .ok () w' ∧ RelI I0 X w0 I g s' a w' ∧ K s':=by
 unfold putV at hK
 split at hK <;> try exact hK.elim
 rename_i hkd
 split at hK <;> try exact hK.elim
 rename_i kt k hkt
 split at hK <;> try exact hK.elim
 rename_i r qr kt' es hr hqr ho
 split at hK <;> try exact hK.elim
 rename_i he
 obtain rfl:=eqN_is.1 he
 obtain ⟨b',hb',rfl⟩:=hv.unmp
 have hok:=getO_some ho (by simp)
 obtain ⟨b,l,c,g1,g2,g3,g4,g5⟩:=h.obj k _ hok
 rw [g1] at hb'
 have hb':=Option.some.inj (Value.map.inj hb')
 subst hb'
 have hmo:=hm
 unfold mapOk at hmo
 rw [hkt] at hmo
 split at hmo
 ·rename_i kt0 e hkt0 hve
  have hkt0:=Option.some.inj hkt0
  subst hkt0
  have hun:=ty_map ht hkd hkt hve
  obtain ⟨k1,k2,k3⟩:=map_known hm hkt hve
  obtain ⟨h1,h2⟩:=keyV_at h hu hr
  obtain rfl:=key_val h1 h2
  have hqa:=toR_at h hq hqr
  have hko:=key_ok k1 k3 h2 h2 (w:=w)
  have hfind:=find_key k1 (es_keys g3) (es_keyOk k1 k3 h2 g3 w)
  have hput:real.mput es r qr = mset es r qr:=rfl
  rw [hput,setO_is] at hK
  rcases hit_is (r:=r) (q:=qr) 0 g3 with ⟨j,en,p,e1,e2,e3,e4,_,e6⟩ | ⟨e1,_,e6⟩
  ·rw [e6] at hK
   rw [e1,Nat.zero_add] at hfind
   obtain ⟨p1,p2,p3⟩:=g3.2 j _ _ e2 e3
   have hre:=rEq_eq p3 h2 e4
   have hkey:en.key = rVal r:=by rw [key_val p1 p3,hre]
   have hst:(Instr.keyThatStays (rVal r) (rVal r)).run Tryz.prog w = .ok (rVal r) w:=by
    simp only [Instr.keyThatStays,hko.bits,if_true,Sem.run_pure]
   have hlj:l[j]? = some en:=by rw [← Array.getElem?_toList];exact e2
   refine ⟨ChangeMaps.setBlock w b (.map (l.modify j fun e=>{ e with key:=rVal r,val:=q }) c),_,?_,h.setMap (es':=es.set j (p.1,qr)) hok g1 g2 g4 g5 ⟨by simp [g3.1],fun i e2' p' he' hp'=>?_⟩,hK⟩
   ·simp [Instr.mapUpdate,run_underlying hun,MapKept.run_getObj_map g2,hko.chk,hfind,hlj,hkey,hst,MapKept.run_setObj_map _ g2,Result.andThen,ChangeMaps.setBlock]
   ·by_cases hij:j = i
    ·subst hij
     have hl1:j < es.length:=(List.getElem?_eq_some_iff.1 e3).1
     rw [List.getElem?_set_self hl1] at hp'
     have hp':=Option.some.inj hp'
     subst hp'
     rw [Array.getElem?_toList,Array.getElem?_modify,if_pos rfl,hlj] at he'
     have he':=Option.some.inj he'
     subst he'
     refine ⟨?_,hqa,p3⟩
     show AtR I w (rVal r) p.1
     rw [← hkey]
     exact p1
    ·rw [List.getElem?_set_ne hij] at hp'
     rw [Array.getElem?_toList,Array.getElem?_modify,if_neg hij,← Array.getElem?_toList] at he'
     exact g3.2 i _ _ he' hp'
  ·rw [e6] at hK
   rw [e1] at hfind
   refine ⟨ChangeMaps.setBlock w b (.map (l.push { key:=rVal r,val:=q,born:=c }) (c + 1)),_,?_,h.setMap (es':=es ++ [(r,qr)]) hok g1 g2 g4 g5 ⟨by simp [g3.1],fun i e2' p' he' hp'=>?_⟩,hK⟩
   ·simp [Instr.mapUpdate,run_underlying hun,MapKept.run_getObj_map g2,hko.chk,hfind,MapKept.run_setObj_map _ g2,Result.andThen,ChangeMaps.setBlock]
   ·rw [Array.toList_push] at he'
    rcases Nat.lt_or_ge i l.toList.length with hi | hi
    ·rw [List.getElem?_append_left hi] at he'
     rw [List.getElem?_append_left (by rw [← g3.1];exact hi)] at hp'
     exact g3.2 i _ _ he' hp'
    ·rw [List.getElem?_append_right hi] at he'
     rw [List.getElem?_append_right (by rw [← g3.1];exact hi),← g3.1] at hp'
     cases hd:i - l.toList.length with
     | zero =>
      rw [hd] at he' hp'
      have he':=Option.some.inj he'
      have hp':=Option.some.inj hp'
      subst he';subst hp'
      exact ⟨h1,hqa,h2⟩
     | succ n=>rw [hd] at he';simp at he'
 ·cases hmo
theorem mk_ok (h:RelI I0 X w0 I g s a w) {kt:Nat}:∃ g',g' s.o.length = .map (some w.heap.size) ∧ RelI I0 X w0 I g' (s.obj (.mp kt [])) a (w.alloc (.map #[] 0)):=by
 have hb:Below w.heap.size w (w.alloc (.map #[] 0)):=(Below.refl _ _).alloc (Nat.le_refl _) _
 have h2:=h.grow hb (I':=I) (fun _ _ h=>h) (fun _ _ h=>.inl h)
 refine ⟨upd g s.o.length (.map (some w.heap.size)),upd_same ..,h2.newObj _ _ ⟨w.heap.size,#[],0,upd_same ..,(MapKept.heap_alloc w _).1,⟨rfl,fun i e p he=>by simp at he⟩,fun k hk'=>?_,.inl h.fr.size⟩ fun j b hj hbj e=>?_⟩
 ·exact absurd (h.lt _ _ hk').1 (by omega)
 ·have e:w.heap.size = b:=e
  have:=h.blk_lt hj hbj
  omega
end
end
section
theorem val_known {t:Nat} (h:valOk t = true):(ty t).kind = .array → ∀ e,(ty t).val = some e → tyKnown e = true:=fun hk e he=>by
 unfold valOk at h
 rw [hk,he] at h
 exact h
section
variable {I0:Nat → Nat → Prop} {X:Nat → Prop} {w0:W0} {I:Nat → Nat → Prop} {g:Nat → Value} {s:S} {a:Act} {w:World}
theorem wp_yld {o:Oper} {Q:Exit → Act → World → Prop} {K:S → Prop} {m:Sem Value} (he:execOp a.eval o = (do pure (.value (← m)))) (hy:Yld I0 X w0 g s a w m fun x=>K (s.put o.dst x)):o.wp Tryz.prog a w (fun a' w'=>∃ s',Rel I0 X w0 s' a' w' ∧ K s') Q:=by
 obtain ⟨v,x,w',I',h1,h2,h3,h4⟩:=hy
 unfold Oper.wp
 rw [he]
 simp only [Sem.run_bind,h1,Result.andThen_ok,Sem.run_pure]
 rw [Oper.upon_value]
 exact ⟨_,⟨I',g,h2.put h3 _⟩,h4⟩
theorem wp_yld2 {o:Oper} {Q:Exit → Act → World → Prop} {K:S → Prop} {m:Sem Value} (he:(execOp a.eval o).run Tryz.prog w = (m.run Tryz.prog w).andThen fun v w'=>.ok (.value v) w') (hy:Yld I0 X w0 g s a w m fun x=>K (s.put o.dst x)):o.wp Tryz.prog a w (fun a' w'=>∃ s',Rel I0 X w0 s' a' w' ∧ K s') Q:=by
 obtain ⟨v,x,w',I',h1,h2,h3,h4⟩:=hy
 unfold Oper.wp
 rw [he,h1,Result.andThen_ok,Oper.upon_value]
 exact ⟨_,⟨I',g,h2.put h3 _⟩,h4⟩
theorem wp_val {o:Oper} {Q:Exit → Act → World → Prop} {K:S → Prop} (h:RelI I0 X w0 I g s a w) {v:Value} {x:V} (he:execOp a.eval o = pure (.value v)) (hv:AtV I w g v x) (hK:K (s.put o.dst x)):o.wp Tryz.prog a w (fun a' w'=>∃ s',Rel I0 X w0 s' a' w' ∧ K s') Q:=by
 unfold Oper.wp
 rw [he,Sem.run_pure,Oper.upon_value]
 exact ⟨_,⟨I,g,h.put hv _⟩,hK⟩
theorem elem_known {t:Nat} (h:elemOk t = true):∀ e,(ty t).elem = some e → tyKnown e = true:=fun e he=>by
 unfold elemOk at h
 rw [he] at h
 exact h
theorem enter_run {o:Oper} {f:Nat} {x:Operand} {args:Array Operand} {ts:Array Nat} {cs:List Value} (ho:o.op = .call ⟨.value x,args,ts⟩) (hx:a.eval x = .func (.func f) #[] cs.toArray) (hf:fnOk Tryz.prog f = true):(execOp a.eval o).run Tryz.prog w = .ok (.enter f (args.toList.map a.eval ++ cs).toArray) w:=by
 unfold fnOk at hf
 cases hfn:Tryz.prog.funcs[f]? with
 | none=>rw [hfn] at hf;cases hf
 | some fn =>
  rw [hfn] at hf
  simp only [Bool.and_eq_true,bne_iff_ne,ne_eq] at hf
  have h1:(fn.name == "runtime.NumGoroutine") = false:=beq_eq_false_iff_ne.2 hf.1
  have h2:fn.body.isNone = false:=by
   cases hb:fn.body with
   | none=>rw [hb] at hf;simp at hf
   | some c=>rfl
  have h4:(args.map a.eval) ++ cs.toArray = (args.toList.map a.eval ++ cs).toArray:=by apply Array.ext';simp
  unfold execOp
  simp only [ho,resolve,hx,Deferred.ofValue,invoke,callFunc,Sem.run_bind,Sem.run_pure,Result.andThen_ok,program,Sem.run,hfn,h1,h2,← h4]
  simp
theorem spec_wp (h:RelI I0 X w0 I g s a w) {o:Oper} {Q:Exit → Act → World → Prop} {K:S → Prop} {f:Nat} {us:List Value} {vs:List V} {rs q:List R} (hrun:fnOk Tryz.prog f = true → (execOp a.eval o).run Tryz.prog w = .ok (.enter f us.toArray) w) (hv:AtVs I w g us vs) (hrs:toRs s.o vs = some rs) (hq:Spec f rs q) (hK:K (s.put o.dst (resV q))):o.wp Tryz.prog a w (fun a' w'=>∃ s',Rel I0 X w0 s' a' w' ∧ K s') Q:=by
 have hat:=toRs_at h hv hrs
 have hc:=hq.2 I w _ h.wld hat
 unfold Oper.wp
 rw [hrun hq.1,Oper.upon_enter]
 refine hc.mono ?_
 rintro e w' ⟨v,rfl,hres,hbel⟩
 have h5:=h.grow hbel (I':=nxt I w w') (fun _ _ h=>.inl h) (fun _ _ h=>h)
 exact ⟨_,⟨_,g,h5.put (resV_at g hres) _⟩,hK⟩
theorem callo_ok (h:RelI I0 X w0 I g s a w) {o:Oper} {Q:Exit → Act → World → Prop} {K:S → Prop} {f:Nat} {us:List Value} {vs:List V} (hrun:fnOk Tryz.prog f = true → (execOp a.eval o).run Tryz.prog w = .ok (.enter f us.toArray) w) (hv:AtVs I w g us vs) (hK:real.callo f vs s (fun v s'=>K (s'.put o.dst v))):o.wp Tryz.prog a w (fun a' w'=>∃ s',Rel I0 X w0 s' a' w' ∧ K s') Q:=by
 obtain ⟨hf,hK⟩:=hK
 unfold Oper.wp
 rw [hrun hf,Oper.upon_enter]
 refine (hK I0 X w0 I g s.t a w us h hv).mono ?_
 rintro e w' ⟨v,x,o',ks,I',g',rfl,h',hv',hK⟩
 exact ⟨_,⟨I',g',h'.put hv' _⟩,hK⟩
theorem callx_ok (h:RelI I0 X w0 I g s a w) {o:Oper} {Q:Exit → Act → World → Prop} {K:S → Prop} {f:Nat} {us:List Value} {vs:List V} {l:List Nat} (hrun:fnOk Tryz.prog f = true → (execOp a.eval o).run Tryz.prog w = .ok (.enter f us.toArray) w) (hv:AtVs I w g us vs) (hK:real.callx f vs l s (fun v s'=>K (s'.put o.dst v))):o.wp Tryz.prog a w (fun a' w'=>∃ s',Rel I0 X w0 s' a' w' ∧ K s') Q:=by
 obtain ⟨hf,hK⟩:=hK
 unfold Oper.wp
 rw [hrun hf,Oper.upon_enter]
 refine (hK I0 X w0 I g s.t a w us h hv).mono ?_
 rintro e w' ⟨v,x,o',I',g',rfl,h',hv',_,hK⟩
 exact ⟨_,⟨I',g',h'.put hv' _⟩,hK⟩
theorem call_ok (h:RelI I0 X w0 I g s a w) {o:Oper} {Q:Exit → Act → World → Prop} {K:S → Prop} {f:Nat} {us:List Value} {vs:List V} (hrun:fnOk Tryz.prog f = true → (execOp a.eval o).run Tryz.prog w = .ok (.enter f us.toArray) w) (hv:AtVs I w g us vs)
  (hK:callV real s.o (fun x=>K (s.put o.dst x)) f vs):o.wp Tryz.prog a w (fun a' w'=>∃ s',Rel I0 X w0 s' a' w' ∧ K s') Q:=by
 unfold callV at hK
 split at hK
 ·rename_i rs hrs
  obtain ⟨q,hq,hK⟩:=hK
  exact spec_wp h hrun hv hrs hq hK
 ·obtain ⟨q,⟨hf,hq⟩,hK⟩:=hK
  unfold Oper.wp
  rw [hrun hf,Oper.upon_enter]
  refine (hq I0 X w0 I g s.t a w _ h hv).mono ?_
  rintro e w' ⟨v,I',g',rfl,h',hres⟩
  exact ⟨_,⟨I',g',h'.put hres _⟩,hK⟩
theorem ptrs_at (h:RelI I0 X w0 I g s a w):∀ {l:List V} {us:List Value} {ks:List Nat},AtVs I w g us l → ptrsV l = some ks → us.length = ks.length ∧ ∀ (i:Nat) (u:Value) (k:Nat),us[i]? = some u → ks[i]? = some k → u = g k ∧ ∃ b,g k = .pointer (some ⟨b,0,none⟩)
 | [],us,ks,hv,hp=>by
  rw [ptrsV] at hp
  injection hp with hp
  subst hp
  rw [hv.unnil]
  exact ⟨rfl,fun i u k hu=>by simp at hu⟩
 | x :: l,us,ks,hv,hp=>by
  obtain ⟨u,us',rfl,h1,h2⟩:=hv.uncons
  unfold ptrsV at hp
  split at hp
  ·rename_i e;cases e
  ·rename_i k l' e
   injection e with e1 e2
   subst e1;subst e2
   split at hp
   ·rename_i ks' hks
    injection hp with hp
    subst hp
    obtain ⟨h3,h4⟩:=ptrs_at h h2 hks
    obtain ⟨b,hg,rfl⟩:=h1.unptr
    refine ⟨by simp [h3],fun i v j hv hj=>?_⟩
    cases i with
    | zero=>simp at hv hj;subst hv;subst hj;exact ⟨hg.symm,b,hg⟩
    | succ i=>exact h4 i v j (by simpa using hv) (by simpa using hj)
   ·cases hp
  ·cases hp
theorem caps_at:∀ {ks:List Nat} {us:List Value},us.length = ks.length → (∀ (i:Nat) (u:Value) (k:Nat),us[i]? = some u → ks[i]? = some k → u = g k ∧ ∃ b,g k = .pointer (some ⟨b,0,none⟩)) → AtVs I w g us (caps ks)
 | [],us,hl,_=>by rw [List.eq_nil_of_length_eq_zero hl];exact .nil I w g
 | k :: ks,[],hl,_=>by simp at hl
 | k :: ks,u :: us,hl,h=>by
  obtain ⟨h1,b,h2⟩:=h 0 u k rfl rfl
  refine .cons ?_ (caps_at (by simpa using hl) fun i v j hv hj=>h (i + 1) v j (by simpa using hv) (by simpa using hj))
  rw [h1,h2]
  exact .ptr k 0 b h2
theorem appV_is:∀ l m:List V,appV l m = l ++ m
 | [],m=>rfl
 | x :: l,m=>by rw [appV,appV_is l m];rfl
theorem lit_ok (h:RelI I0 X w0 I g s a w) {o:Oper} {Q:Exit → Act → World → Prop} {K:S → Prop} {t n:Nat} {ps:Array (Nat × Operand)} (ho:o.op = .buildSlice t (n + 1) ps) (hop:okOp Tryz.prog o.op = true) (hK:litV real s o.dst K t (n + 1) ps.toList):o.wp Tryz.prog a w (fun a' w'=>∃ s',Rel I0 X w0 s' a' w' ∧ K s') Q:=by
 rw [ho] at hop
 simp only [okOp,Bool.and_eq_true] at hop
 unfold litV at hK
 split at hK <;> try exact hK.elim
 rename_i e he
 have hte:∀ e,(ty t).elem = some e → tyKnown e = true ∧ (n + 1) * (ty e).sz ≤ 16777216:=fun e he=>by
  have h2:=hop.2
  rw [he] at h2
  simp only [Bool.and_eq_true] at h2
  exact ⟨h2.1,Nat.le_of_ble_eq_true h2.2⟩
 obtain ⟨e',rows,us,he',hke,hrun,hl,hrl,hr1,hat,hK⟩:=buildSlice_run h hop.1.1 hte ps hK
 rw [he] at he'
 injection he' with he'
 subst he'
 obtain ⟨z0,hK⟩:=hK
 have hb:Below w.heap.size w (w.alloc (.cells us.toArray e)):=(Below.refl _ _).alloc (Nat.le_refl _) _
 have hk:Keeps I w (w.alloc (.cells us.toArray e)):=fun b k hbk i _=>hb.cell (p:=⟨b,i,none⟩) (h.lt b k hbk).1
 have h2:=h.grow hb (I':=fun b k=>I b k ∨ (z0 = true ∧ b = w.heap.size ∧ k ≤ (n + 1) * (ty e).sz)) (fun _ _ h=>.inl h) (fun b k hk=>by
  rcases hk with hk | ⟨_,hk,_⟩
  ·exact .inl hk
  ·exact .inr ⟨by omega,by simp [hk]⟩)
 have h3:=h2.newObj (.row z0 e rows) (.slice (some ⟨w.heap.size,0,none⟩) (n + 1) (n + 1)) ⟨us,by
   rw [upd_same,hrl]
   refine ⟨hl,.inr ⟨w.heap.size,n + 1,us.toArray,rfl,Nat.zero_le _,heap_alloc_new w _,Nat.le_refl _,?_,by simp [hl],by simp [← hl]⟩⟩
   have:=Nat.le_of_ble_eq_true hop.1.2
   unfold maxLen
   omega,hr1,hat.mono (fun _ _ h=>.inl h) hk,fun b hb=>by
   rw [upd_same] at hb
   have hb:=Option.some.inj hb
   subst hb
   refine ⟨fun hz=>.inr ⟨hz,rfl,by rw [hrl];exact Nat.le_refl _⟩,fun k hk=>?_,.inl h.fr.size⟩
   rcases hk with hk | ⟨hz,_,hk⟩
   ·exact absurd (h.lt _ _ hk).1 (Nat.lt_irrefl _)
   ·exact ⟨hz,by rw [hrl];exact hk⟩⟩ (fun j b hj hb hb'=>by
   have hb':w.heap.size = b:=hb'
   have h4:=h.blk_lt hj hb
   omega)
 unfold Oper.wp
 have hex:(execOp a.eval o).run Tryz.prog w = .ok (.value (.slice (some ⟨w.heap.size,0,none⟩) (n + 1) (n + 1))) (w.alloc (.cells us.toArray e)):=by
  unfold execOp
  rw [ho]
  simp only [Sem.run_bind,hrun,Result.andThen_ok,Sem.run_pure]
 rw [hex,Oper.upon_value]
 exact ⟨_,⟨_,_,h3.put (x:=.own (lenO s.o)) (.own _ _ _ _ (by rw [lenO_is,upd_same];rfl)) _⟩,hK⟩
set_option maxRecDepth 20000 in
theorem fnV_at (h:RelI I0 X w0 I g s a w) {i f:Nat} {ks:List Nat} (hf:fnV (getN s.t i) = some (f,ks)):∃ cs:List Value,a.eval (.tmp i) = .func (.func f) #[] cs.toArray ∧ AtVs I w g cs (caps ks):=by
 have hx:AtV I w g (a.eval (.tmp i)) (getN s.t i):=h.get (.tmp i)
 unfold fnV at hf
 split at hf
 ·rename_i f' ks' hcl
  injection hf with hf
  injection hf with e1 e2
  subst e1;subst e2
  rw [hcl] at hx
  generalize a.eval (.tmp i) = y at hx ⊢
  cases hx with
  | cl f us ks hl h2=>exact ⟨us,rfl,caps_at hl h2⟩
 ·rename_i f' hd
  injection hf with hf
  injection hf with e1 e2
  subst e1;subst e2
  rw [hd] at hx
  exact ⟨[],hx.sc,.nil I w g⟩
 ·cases hf
theorem fnX_at (h:RelI I0 X w0 I g s a w) {x:Operand} {f:Nat} {ks:List Nat} (hf:fnV (s.get x) = some (f,ks)):∃ cs:List Value,a.eval x = .func (.func f) #[] cs.toArray ∧ AtVs I w g cs (caps ks):=by
 have hx:AtV I w g (a.eval x) (s.get x):=h.get x
 unfold fnV at hf
 split at hf
 ·rename_i f' ks' hcl
  injection hf with hf
  injection hf with e1 e2
  subst e1;subst e2
  rw [hcl] at hx
  generalize a.eval x = y at hx ⊢
  cases hx with
  | cl f us ks hl h2=>exact ⟨us,rfl,caps_at hl h2⟩
 ·rename_i f' hd
  injection hf with hf
  injection hf with e1 e2
  subst e1;subst e2
  rw [hd] at hx
  exact ⟨[],hx.sc,.nil I w g⟩
 ·cases hf
set_option maxRecDepth 10000 in
theorem calm_ok (h:RelI I0 X w0 I g s a w) {o:Oper} {Q:Exit → Act → World → Prop} {K:S → Prop} (hop:okOp Tryz.prog o.op = true) (hK:stepC real s.get s.o (fun x=>K (s.put o.dst x)) o.op):o.wp Tryz.prog a w (fun a' w'=>∃ s',Rel I0 X w0 s' a' w' ∧ K s') Q:=by
 obtain ⟨dst,op,type,pos,after,gd⟩:=o
 simp only at hop hK ⊢
 unfold stepC at hK
 split at hK <;> try exact hK.elim
 ·rename_i x;exact wp_val h rfl (h.get x) hK
 ·rename_i x;exact wp_val h rfl (h.get x) hK
 ·rename_i c x y;exact wp_yld2 (by simp only [execOp,Sem.run_bind];cases (asBool (a.eval c)).run Tryz.prog w <;> rfl) (pick_ok h (h.get c) (h.get x) (h.get y) hK)
 ·rename_i t x;exact wp_yld rfl (load_ok h hop (h.get x) hK)
 ·rename_i t x i;exact wp_yld rfl (field_ok h hop (h.get x) hK)
 ·rename_i t x i
  simp only [okOp,Bool.and_eq_true] at hop
  exact wp_yld rfl (part_ok h hop.1 (fun u hu=>List.all_eq_true.1 hop.2 u (List.mem_of_getElem? hu)) (h.get x) hK)
 ·rename_i t x i
  simp only [okOp,Bool.and_eq_true] at hop
  exact wp_yld rfl (index_ok h hop.1.1 (elem_known hop.1.2) (val_known hop.2) (h.get x) (h.get i) hK)
 ·rename_i t x i
  simp only [okOp,Bool.and_eq_true] at hop
  exact wp_yld rfl (sget_ok h hop.1 (val_known hop.2) (h.get x) (h.get i) hK)
 ·rename_i op t x y yt;exact wp_yld rfl (bin_ok h hop x y (h.get x) (h.get y) hK)
 ·rename_i op t x;exact wp_yld rfl (un_ok h (h.get x) hK)
 ·rename_i t0 t x
  simp only [okOp,Bool.and_eq_true] at hop
  exact wp_yld rfl (conv_ok h hop.1.1 hop.1.2 hop.2 (h.get x) hK)
 ·rename_i t ps
  simp only [okOp,Bool.and_eq_true] at hop
  exact wp_yld rfl (build_ok h hop.1 (val_known hop.2) ps hK)
 ·rename_i t n ps
  simp only [okOp,Bool.and_eq_true] at hop
  refine wp_yld rfl (buildSlice_ok h hop.1.1 (fun e he=>?_) ps hK)
  have h2:=hop.2
  rw [he] at h2
  simp only [Bool.and_eq_true] at h2
  exact ⟨h2.1,Nat.le_of_ble_eq_true h2.2⟩
 ·rename_i x i;exact wp_yld rfl (extract_ok h (h.get x) hK)
 ·rename_i t x lo hi
  simp only [okOp,Bool.and_eq_true] at hop
  exact wp_yld rfl (slice_ok h hop.1 (elem_known hop.2) (h.get x) hK)
 ·rename_i x t
  refine wp_yld2 (m:=Builtin.len_ #[t] type #[a.eval x]) ?_ (len_ok h hop (h.get x) hK)
  simp [execOp,resolve,invoke,builtin]
 ·rename_i f args ts;exact call_ok h (fun hf=>enter_run (cs:=[]) rfl rfl hf) (by rw [List.append_nil];exact h.gets args.toList) hK
 ·rename_i t x i ok
  simp only [okOp,Bool.and_eq_true] at hop
  exact wp_yld rfl (look_ok h hop.1 hop.2 (h.get x) (h.get i) hK)
 ·rename_i args ts
  have e:args.map a.eval = (args.toList.map a.eval).toArray:=by apply Array.ext';simp
  refine wp_yld2 (s:=s) (g:=g) (m:=Builtin.min_ ts type (args.map a.eval)) (by simp [execOp,resolve,invoke,builtin]) ?_
  rw [e]
  exact min_ok (mx:=false) (ts:=ts) (ty':=type) h (h.gets args.toList) hK
 ·rename_i args ts
  have e:args.map a.eval = (args.toList.map a.eval).toArray:=by apply Array.ext';simp
  refine wp_yld2 (s:=s) (g:=g) (m:=Builtin.max_ ts type (args.map a.eval)) (by simp [execOp,resolve,invoke,builtin]) ?_
  rw [e]
  exact min_ok (mx:=true) (ts:=ts) (ty':=type) h (h.gets args.toList) hK
 ·rename_i x
  obtain ⟨h1,_,h2⟩:=nn_ok h (h.get x) hK
  refine wp_val h (v:=a.eval x) ?_ (h.get x) h1
  unfold execOp
  rcases h2 with ⟨b,hb⟩ | ⟨f,cs,hb⟩ <;> simp only [hb]
 ·rename_i f cs
  split at hK <;> try exact hK.elim
  rename_i ks hks
  obtain ⟨h1,h2⟩:=ptrs_at h (h.gets cs.toList) hks
  have e:cs.map a.eval = (cs.toList.map a.eval).toArray:=by apply Array.ext';simp
  refine wp_yld rfl (yld (v:=.func (.func f) #[] (cs.toList.map a.eval).toArray) h ?_ (.cl f _ ks h1 h2) hK)
  rw [e]
  simp [Instr.makeFunc]
 ·rename_i i args ts
  unfold callTV at hK
  split at hK <;> try exact hK.elim
  rename_i f ks hf
  obtain ⟨cs,hc1,hc2⟩:=fnV_at h hf
  exact call_ok h (fun hf=>enter_run (cs:=cs) rfl hc1 hf) (by rw [appV_is];exact (h.gets args.toList).append hc2) hK
theorem wp_new {o:Oper} {Q:Exit → Act → World → Prop} {K:S → Prop} (h:RelI I0 X w0 I g s a w) {us:List Value} {cs:List V} {t:Nat} (hu:AtVs I w g us cs) (h1:∀ u ∈ us,u.oneCell' = true)
  (he:(execOp a.eval o).run Tryz.prog w = .ok (.value (.pointer (some ⟨w.heap.size,0,none⟩))) (w.alloc (.cells us.toArray t))) (hK:K ((s.obj (.box cs)).put o.dst (.ptr (lenO s.o) 0))):o.wp Tryz.prog a w (fun a' w'=>∃ s',Rel I0 X w0 s' a' w' ∧ K s') Q:=by
 unfold Oper.wp
 rw [he,Oper.upon_value]
 obtain ⟨g',hg,h2⟩:=h.box hu h1 t
 rw [← lenO_is] at hg
 exact ⟨_,⟨I,g',h2.put (.ptr _ 0 _ hg) _⟩,hK⟩
theorem wp_newOb {o:Oper} {Q:Exit → Act → World → Prop} {K:S → Prop} (h:RelI I0 X w0 I g s a w) {us:List Value} {t:Nat}
  (he:(execOp a.eval o).run Tryz.prog w = .ok (.value (.pointer (some ⟨w.heap.size,0,none⟩))) (w.alloc (.cells us.toArray t))) (hK:K ((s.obj (.ob t us)).put o.dst (.ptr (lenO s.o) 0))):o.wp Tryz.prog a w (fun a' w'=>∃ s',Rel I0 X w0 s' a' w' ∧ K s') Q:=by
 unfold Oper.wp
 rw [he,Oper.upon_value]
 obtain ⟨g',hg,h2⟩:=h.obNew us t
 rw [← lenO_is] at hg
 exact ⟨_,⟨I,g',h2.put (.ptr _ 0 _ hg) _⟩,hK⟩
theorem constL_ones (I:Nat → Nat → Prop) (w:World) (g:Nat → Value) {l:List Value} (h:ones (constL l) = true):∀ u ∈ l,u.oneCell' = true:=ones_at (I:=I) (w:=w) (g:=g) (constL_at l) h
theorem append_ok {m:Bool} (h:RelI I0 X w0 I g s a w) {o:Oper} {Q:Exit → Act → World → Prop} {K:S → Prop} {x y:Operand} {t:Nat} (ho:o.op = .call ⟨.builtin .append,⟨[x,y]⟩,⟨[t,t]⟩⟩) (ht:tyKnown t = true) (hte:∀ e,(ty t).elem = some e → tyKnown e = true ∧ 0 < (ty e).sz)
  (hK:appendV real m s o.dst K t (s.get x) (s.get y)):o.wp Tryz.prog a w (fun a' w'=>∃ s',Rel I0 X w0 s' a' w' ∧ K s') Q:=by
 unfold appendV at hK
 split at hK <;> try exact hK.elim
 rename_i e he
 split at hK <;> try exact hK.elim
 rename_i sz ys hys
 split at hK <;> try exact hK.elim
 rename_i hsz
 obtain ⟨hke,hpos⟩:=hte e he
 have hun:=ty_slice ht he
 obtain ⟨i,z,hi,his,hiz,hzc,hzl,hby⟩:=ty_info hke
 have hzs:z.cells.size = (ty e).sz:=by rw [hzc];simp [hzl]
 obtain ⟨hd,hnil⟩:=rows_at h (h.get y) hys
 have hd2:=szOk_at hsz hd hnil
 obtain ⟨A,cap,hyv,hcap,hrows⟩:=hd2.slice
 obtain ⟨vs,hsrc,hrl,hvs⟩:∃ vs,SrcAt w A ys.length (ty e).sz vs ∧ (∀ r ∈ ys,r.length = (ty e).sz) ∧ AtDs I w vs ys.flatten:=by
  rcases hrows with rfl | ⟨b,off,us,rfl,hI,hrl,hl,hc,hds⟩
  ·exact ⟨[],⟨by simp,by simp,fun ad _ j u hu=>by simp at hu,by simp⟩,by simp,.nil I w⟩
  ·exact ⟨us,⟨hl,by simp,fun ad had j u hu=>by have h9:=Option.some.inj had;rw [← h9,Addr.add_lit];exact hc j u hu,hds.one⟩,hrl,hds⟩
 have room:∀ n,n + ys.length ≤ 137438953472 → n + ys.length ≤ maxLen ∧ (n + ys.length) * i.bytes ≤ 140737488355328:=fun n hn=>by
  refine ⟨by unfold maxLen;omega,?_⟩
  have h1:(n + ys.length) * i.bytes ≤ 137438953472 * 1024:=Nat.mul_le_mul hn hby
  omega
 have hexec:∀ v' w',(Builtin.append_ #[t,t] o.type #[a.eval x,.slice A ys.length cap]).run Tryz.prog w = .ok v' w' → (execOp a.eval o).run Tryz.prog w = .ok (.value v') w':=fun v' w' hr=>by
  unfold execOp
  rw [ho]
  simp only [resolve,invoke,builtin,Sem.run_bind,Sem.run_pure,Result.andThen_ok,List.map_toArray,List.map_cons,List.map_nil,hyv,hr]
 have hx:=h.get x
 split at hK <;> try exact hK.elim
 ·-- behind nothing
  rename_i hxe
  rw [hxe] at hx
  obtain ⟨hroom,z0,hK⟩:=hK
  have hr:=room 0 (show 0 + ys.length ≤ 137438953472 from hroom)
  have hxv:a.eval x = .slice none 0 0:=hx.unem
  obtain ⟨v',w',hrun,hown,hsp⟩:=run_append_split (P:=Tryz.prog) w 0 t o.type e i z (ty e).sz i.bytes hun hi hiz his rfl hzs hpos (.slice none 0 0) 0 [] (World.ownsRow_nil w 0 e _) A ys.length cap vs hsrc hr.1 hr.2 (Nat.zero_le _)
  rcases hsp with ⟨b,hb,_⟩ | ⟨hbel,hblk⟩
  ·cases hb
  rw [Nat.zero_add,List.nil_append] at hown
  have hkp:Keeps I w w':=fun b k hbk i _=>hbel.cell (p:=⟨b,i,none⟩) (h.lt b k hbk).1
  have hlt:∀ b,v'.ownBlock = some b → b = w.heap.size ∧ b < w'.heap.size:=fun b hb=>by
   refine ⟨?_,(hown.lt b hb).2⟩
   rcases hblk with h1 | h1
   ·rw [h1] at hb;cases hb
   ·rw [h1] at hb;exact (Option.some.inj hb).symm
  have h2:=h.grow hbel (I':=fun b k=>I b k ∨ (z0 = true ∧ v'.ownBlock = some b ∧ k ≤ ys.length * (ty e).sz)) (fun _ _ h=>.inl h) (fun b k hk=>by
   rcases hk with hk | ⟨_,hk,_⟩
   ·exact .inl hk
   ·obtain ⟨h1,h2⟩:=hlt b hk;exact .inr ⟨by omega,h2⟩)
  have h3:=h2.newObj (.row z0 e ys) v' ⟨vs,by rw [upd_same];exact hown,hrl,hvs.mono (fun _ _ h=>.inl h) hkp,fun b hb=>by
   rw [upd_same] at hb
   refine ⟨fun hz=>.inr ⟨hz,hb,Nat.le_refl _⟩,fun k hk=>?_,.inl ?_⟩
   ·rcases hk with hk | ⟨hz,_,hk⟩
    ·have:=(h.lt _ _ hk).1;have:=(hlt b hb).1;omega
    ·exact ⟨hz,hk⟩
   ·have:=(hlt b hb).1;have:=h.fr.size;omega⟩ (fun j b hj hb hb'=>by
   have hb':=(own_gblk hown).1 hb'
   have h1:=(hlt b hb').1
   have h2:=h.blk_lt hj hb
   omega)
  unfold Oper.wp
  rw [hexec v' w' (by rw [hxv];exact hrun),Oper.upon_value]
  obtain ⟨A',c',hv'⟩:=own_slice hown
  refine ⟨_,⟨_,_,(RelI.freshly h3).put (x:=.own (lenO s.o)) ?_ _⟩,hK⟩
  rw [hv']
  exact .own _ _ _ _ (by rw [lenO_is,upd_same];rfl)
 ·-- behind a row
  rename_i k hxk
  rw [hxk] at hx
  split at hK <;> try exact hK.elim
  rename_i z0 e' xs hok
  split at hK <;> try exact hK.elim
  rename_i hee
  rw [eqN_is] at hee
  subst hee
  obtain ⟨hroom,hK⟩:=hK
  have hr:=room xs.length (show xs.length + ys.length ≤ 137438953472 from hroom)
  have hk:=getO_some hok (by simp)
  obtain ⟨us,hown,hxl,hxd,hxb⟩:=h.obj k _ hk
  have hxv:a.eval x = g k:=hx.unown.1.trans (own_gv hown)
  obtain ⟨v',w',hrun,hown',hsp⟩:=run_append_split (P:=Tryz.prog) w 0 t o.type e' i z (ty e').sz i.bytes hun hi hiz his rfl hzs hpos (g k) xs.length us hown A ys.length cap vs hsrc hr.1 hr.2 (Nat.zero_le _)
  obtain ⟨I',g',hg',h2⟩:=h.appended hk hown hrl hvs hown' hsp
  unfold Oper.wp
  rw [hexec v' w' (by rw [hxv];exact hrun),Oper.upon_value]
  obtain ⟨A',c',hv'⟩:=own_slice hown'
  rw [setO_is] at hK
  refine ⟨_,⟨_,_,h2.put (x:=.own k) ?_ _⟩,hK⟩
  rw [hv']
  exact .own _ _ _ _ (by rw [hg',hv'];rfl)
theorem flat_rep {α:Type} (n:Nat) (l:List α):(List.replicate n l).flatten.length = n * l.length:=by
 rw [List.length_flatten,List.map_replicate,List.sum_replicate_nat]
theorem make_ok (h:RelI I0 X w0 I g s a w) {o:Oper} {Q:Exit → Act → World → Prop} {K:S → Prop} {x y:Operand} {t:Nat} (ho:o.op = .makeSlice t x y) (ht:tyKnown t = true) (hte:∀ e,(ty t).elem = some e → tyKnown e = true)
  (hK:mkSliceV real s o.dst K t (s.get x) (s.get y)):o.wp Tryz.prog a w (fun a' w'=>∃ s',Rel I0 X w0 s' a' w' ∧ K s') Q:=by
 have hx:=h.get x
 have hy:=h.get y
 unfold mkSliceV at hK
 split at hK <;> try exact hK.elim
 rename_i k n k' m e1 e2
 rw [e1] at hx
 rw [e2] at hy
 split at hK <;> try exact hK.elim
 rename_i hnm
 have hnm:n = m:=by simpa [real] using hnm
 subst hnm
 split at hK <;> try exact hK.elim
 rename_i e he
 split at hK <;> try exact hK.elim
 rename_i z hz
 obtain ⟨⟨h1,h2,h3⟩,z0,hK⟩:=hK
 have hke:=hte e he
 have hun:=ty_slice ht he
 obtain ⟨i,zv,hi,his,hiz,hzc,hzl,hby⟩:=ty_info hke
 have hzat:=toDs_at (s:=⟨s.t,s.o⟩) h (constL_at (I:=I) (w:=w) (g:=g) (ty e).zero) (by
  have key:∀ {l:List V} {ds:List D},toDs [] l = some ds → toDs s.o l = some ds:=by
   intro l
   induction l with
   | nil=>intro ds h;exact h
   | cons v l ih =>
    intro ds h
    rw [toDs] at h ⊢
    split at h
    ·rename_i y hy
     split at h
     ·rename_i ys hys
      have:toD s.o v = some y:=by
       cases v with
       | own k=>simp [toD,getO] at hy
       | cl f ks=>cases ks <;> exact hy
       | _=>exact hy
      rw [this,ih hys]
      exact h
     ·cases h
    ·cases h
  exact key hz)
 have hzlen:z.length = (ty e).sz:=by rw [← hzat.1,hzl]
 obtain ⟨N,hN⟩:∃ N,N = n.toNat:=⟨_,rfl⟩
 rw [← hN] at h3 hK
 have hrun:=run_makeSlice (P:=Tryz.prog) w t e i zv hun hi hiz k k' n n h1 (Int.le_refl _) (by rw [← hN,his,← hzlen];exact h3) (by
  have:(i.bytes:Int) * n ≤ 1024 * 16777216:=Int.mul_le_mul (by omega) h2 h1 (by decide)
  omega) (by omega)
 rw [← hN] at hrun
 have hcells:(madeCells zv.cells (N * i.size)).toList = (List.replicate N (ty e).zero).flatten:=by
  have:=range_zero (ty e).zero.toArray N
  have e3:(ty e).zero.toArray.size = (ty e).sz:=by simp [hzl]
  rw [hzc,his,← e3]
  exact this
 obtain ⟨us,hus⟩:∃ us,us = (List.replicate N (ty e).zero).flatten:=⟨_,rfl⟩
 have hmade:madeCells zv.cells (N * i.size) = us.toArray:=by apply Array.ext';rw [hcells,hus]
 rw [hmade] at hrun
 have hul:us.length = N * (ty e).sz:=by rw [hus,flat_rep,hzl]
 have hrl:(List.replicate N z).length = N:=List.length_replicate
 have hr1:∀ r ∈ List.replicate N z,r.length = (ty e).sz:=fun r hr=>by rw [List.eq_of_mem_replicate hr,hzlen]
 have hat:AtDs I w us (List.replicate N z).flatten:=by
  refine ⟨by rw [hul,flat_rep,hzlen],fun j u d hu hd=>?_⟩
  have hj:j < N * (ty e).sz:=by rw [← hul];exact (List.getElem?_eq_some_iff.1 hu).1
  have hpos:0 < (ty e).sz:=by
   rcases Nat.eq_zero_or_pos (ty e).sz with h0 | h0
   ·rw [h0,Nat.mul_zero] at hj;omega
   ·exact h0
  have hq:j / (ty e).sz < N:=(Nat.div_lt_iff_lt_mul hpos).2 hj
  have hr:j % (ty e).sz < (ty e).sz:=Nat.mod_lt _ hpos
  have ej:j / (ty e).sz * (ty e).sz + j % (ty e).sz = j:=by rw [Nat.mul_comm];exact Nat.div_add_mod j _
  rw [hus,← ej,flat_get (fun r hr=>by rw [List.eq_of_mem_replicate hr,hzl]) (List.getElem?_replicate_of_lt hq) hr] at hu
  rw [← ej,flat_get hr1 (List.getElem?_replicate_of_lt hq) hr] at hd
  exact hzat.2 _ u d hu hd
 have hb:Below w.heap.size w (w.alloc (.cells us.toArray e)):=(Below.refl _ _).alloc (Nat.le_refl _) _
 have hk:Keeps I w (w.alloc (.cells us.toArray e)):=fun b k hbk i _=>hb.cell (p:=⟨b,i,none⟩) (h.lt b k hbk).1
 have h4:=h.grow hb (I':=fun b k=>I b k ∨ (z0 = true ∧ b = w.heap.size ∧ k ≤ N * (ty e).sz)) (fun _ _ h=>.inl h) (fun b k hk=>by
  rcases hk with hk | ⟨_,hk,_⟩
  ·exact .inl hk
  ·exact .inr ⟨by omega,by simp [hk]⟩)
 have h5:=h4.newObj (.row z0 e (List.replicate N z)) (.slice (some ⟨w.heap.size,0,none⟩) N N) ⟨us,by
   rw [upd_same,hrl]
   refine ⟨hul,.inr ⟨w.heap.size,N,us.toArray,rfl,Nat.zero_le _,heap_alloc_new w _,Nat.le_refl _,?_,by simp [hul],by simp [← hul]⟩⟩
   unfold maxLen
   omega,hr1,hat.mono (fun _ _ h=>.inl h) hk,fun b hb=>by
   rw [upd_same] at hb
   have hb:=Option.some.inj hb
   subst hb
   refine ⟨fun hz=>.inr ⟨hz,rfl,by rw [hrl];exact Nat.le_refl _⟩,fun k hk=>?_,.inl h.fr.size⟩
   rcases hk with hk | ⟨hz,_,hk⟩
   ·exact absurd (h.lt _ _ hk).1 (Nat.lt_irrefl _)
   ·exact ⟨hz,by rw [hrl];exact hk⟩⟩ (fun j b hj hb hb'=>by
   have hb':w.heap.size = b:=hb'
   have h4:=h.blk_lt hj hb
   omega)
 unfold Oper.wp
 have hex:(execOp a.eval o).run Tryz.prog w = .ok (.value (.slice (some ⟨w.heap.size,0,none⟩) N N)) (w.alloc (.cells us.toArray e)):=by
  unfold execOp
  rw [ho]
  simp only [hx.sc,hy.sc,Sem.run_bind,hrun,Result.andThen_ok,Sem.run_pure]
 rw [hex,Oper.upon_value]
 exact ⟨_,⟨_,_,h5.put (x:=.own (lenO s.o)) (.own _ _ _ _ (by rw [lenO_is,upd_same];rfl)) _⟩,hK⟩
set_option maxRecDepth 20000 in
theorem step_ok {m:Bool} (h:RelI I0 X w0 I g s a w) {o:Oper} {Q:Exit → Act → World → Prop} {K:S → Prop} (hop:okOp Tryz.prog o.op = true) (hK:step real m s o.dst K o.op):o.wp Tryz.prog a w (fun a' w'=>∃ s',Rel I0 X w0 s' a' w' ∧ K s') Q:=by
 obtain ⟨dst,op,type,pos,after,gd⟩:=o
 simp only at hop hK
 unfold step at hK
 split at hK
 ·rename_i e
  split at hK <;> try exact hK.elim
  rename_i h1
  have ht:tyKnown e = true:=hop
  obtain ⟨z,hz,hzc⟩:=ty_zero ht w
  unfold newO at hK
  split at hK
  ·refine wp_newOb h (t:=e) (us:=(ty e).zero) ?_ hK
   simp only [execOp,Instr.alloc,Sem.run_bind,hz,Result.andThen_ok,newVar,newRow,hzc,newObj,Sem.run,Sem.run_pure]
   rfl
  ·refine wp_new h (t:=e) (constL_at (ty e).zero) (constL_ones I w g h1) ?_ hK
   simp only [execOp,Instr.alloc,Sem.run_bind,hz,Result.andThen_ok,newVar,newRow,hzc,newObj,Sem.run,Sem.run_pure]
   rfl
 ·rename_i e x
  split at hK <;> try exact hK.elim
  rename_i cs hcs
  obtain ⟨us,hu1,hu2,hu3⟩:=cells_at (h.get x) hcs
  refine wp_new h (t:=e) hu2 hu3 ?_ hK
  simp only [execOp,Instr.box,Sem.run_bind,newVar,newRow,hu1,newObj,Sem.run,Sem.run_pure,Result.andThen_ok]
  rfl
 ·rename_i t x y
  split at hK <;> try exact hK.elim
  have ht:tyKnown t = true:=hop
  unfold storeV at hK
  split at hK <;> try exact hK.elim
  rotate_left
  ·rename_i k i sz off hx
   split at hK <;> try exact hK.elim
   rename_i e rows hok
   split at hK <;> try exact hK.elim
   rename_i hsz
   rw [eqN_is] at hsz
   split at hK <;> try exact hK.elim
   rename_i row hrow
   split at hK <;> try exact hK.elim
   rename_i l hl
   split at hK <;> try exact hK.elim
   rename_i ds hds
   split at hK <;> try exact hK.elim
   rename_i hlen
   split at hK <;> try exact hK.elim
   rename_i row' hrow'
   obtain ⟨vs,hv1,hv2,hv3⟩:=cells_at (h.get y) hl
   have hvd:=toDs_at h hv2 hds
   have hk:=getO_some hok (by simp)
   obtain ⟨b,n,cap,cur,hg,hb,hle,h2⟩:=h.setEl hk (get_is hrow).2 hvd hrow'
   have hxv:a.eval x = .pointer (some ⟨b,i.toNat * (ty e).sz + off,none⟩):=by
    have h3:=h.get x
    rw [hx] at h3
    generalize a.eval x = ax at h3 ⊢
    cases h3 with
    | el k i sz off b' n' cap' hg' =>
     rw [hg] at hg'
     injection hg' with hg'
     injection hg' with hg'
     injection hg' with hg'
     subst hg'
     rw [hsz]
   rw [eqN_is,lenL_is] at hlen
   have hst:=run_storeCells_at Tryz.prog b (i.toNat * (ty e).sz + off) e vs 0 cur w hb (by simpa using hle) hv3
   simp only [Nat.add_zero] at hst
   have hsize:=ty_size ht w
   have hcz:(a.eval y).cells.size = (ty t).sz:=by rw [hv1];simp [hvd.1,hlen]
   rw [setO_is] at hK
   unfold Oper.wp
   have hrun:(execOp a.eval { dst:=none,op:=Op.store t x y,type:=type,pos:=pos,after:=after,guard:=gd }).run Tryz.prog w = .ok .skip (w.setRow b (cur.toList.take (i.toNat * (ty e).sz + off) ++ vs ++ cur.toList.drop (i.toNat * (ty e).sz + off + vs.length)).toArray):=by
    simp only [execOp,Instr.storeAt,Instr.sureAddr,hxv,storeVar,Sem.run_bind,Sem.run_pure,Result.andThen_ok,hsize,hcz]
    simp [hv1,hst]
   rw [hrun,Oper.upon_skip]
   exact ⟨_,⟨I,g,h2⟩,hK⟩
  rename_i k off hx
  split at hK <;> try exact hK.elim
  rename_i cs hok
  split at hK <;> try exact hK.elim
  rename_i l hl
  split at hK <;> try exact hK.elim
  rename_i hsz
  split at hK <;> try exact hK.elim
  rename_i cs' hcs'
  obtain ⟨vs,hv1,hv2,hv3⟩:=cells_at (h.get y) hl
  have hk:=getO_some hok (by simp)
  obtain ⟨b,us,t',hg,hb,hle,h2⟩:=h.store hk hv2 hv3 hcs'
  have hxv:a.eval x = .pointer (some ⟨b,off,none⟩):=by
   have h3:=h.get x
   rw [hx] at h3
   obtain ⟨b',hg',h4⟩:=h3.unptr
   rw [hg] at hg'
   injection hg' with hg'
   injection hg' with hg'
   injection hg' with hg'
   subst hg'
   exact h4
  rw [eqN_is,lenL_is] at hsz
  have hst:=run_storeCells_at Tryz.prog b off t' vs 0 us.toArray w hb (by simpa using hle) hv3
  simp only [Nat.add_zero] at hst
  have hsize:=ty_size ht w
  have hcz:(a.eval y).cells.size = (ty t).sz:=by rw [hv1];simp [hv2.1,hsz]
  rw [setO_is] at hK
  unfold Oper.wp
  have hrun:(execOp a.eval { dst:=none,op:=Op.store t x y,type:=type,pos:=pos,after:=after,guard:=gd }).run Tryz.prog w = .ok .skip (w.setRow b (us.take off ++ vs ++ us.drop (off + vs.length)).toArray):=by
   simp only [execOp,Instr.storeAt,Instr.sureAddr,hxv,storeVar,Sem.run_bind,Sem.run_pure,Result.andThen_ok,hsize,hcz]
   simp [hv1,hst]
  rw [hrun,Oper.upon_skip]
  exact ⟨_,⟨I,g,h2⟩,hK⟩
 ·rename_i t x y
  simp only [okOp,Bool.and_eq_true] at hop
  exact make_ok h rfl hop.1 (elem_known hop.2) hK
 ·rename_i t
  split at hK <;> try exact hK.elim
  rename_i hkd
  split at hK <;> try exact hK.elim
  rename_i kt hkt
  obtain ⟨g',hg,h2⟩:=mk_ok h (kt:=kt)
  rw [← lenO_is] at hg
  unfold Oper.wp
  have hrun:(execOp a.eval { dst:=dst,op:=Op.makeMap t none,type:=type,pos:=pos,after:=after,guard:=gd }).run Tryz.prog w = .ok (.value (.map (some w.heap.size))) (w.alloc (.map #[] 0)):=by
   simp only [execOp,Option.map_none,Instr.makeMap,newObj,Sem.run_bind,Sem.run_pure,Result.andThen_ok,Sem.run]
   rfl
  rw [hrun,Oper.upon_value]
  exact ⟨_,⟨I,g',h2.put (.mp _ _ hg) _⟩,hK⟩
 ·rename_i t x i v
  split at hK <;> try exact hK.elim
  simp only [okOp,Bool.and_eq_true] at hop
  obtain ⟨w',s',hrun,h',hK⟩:=put_ok h hop.1 hop.2 (h.get x) (h.get i) (h.get v) hK
  unfold Oper.wp
  have hrun':(execOp a.eval { dst:=none,op:=Op.mapUpdate t x i v,type:=type,pos:=pos,after:=after,guard:=gd }).run Tryz.prog w = .ok .skip w':=by
   simp only [execOp,Sem.run_bind,hrun,Result.andThen_ok,Sem.run_pure]
  rw [hrun',Oper.upon_skip]
  exact ⟨_,⟨I,g,h'⟩,hK⟩
 ·rename_i t
  split at hK <;> try exact hK.elim
  rename_i e he
  obtain ⟨z0,hK⟩:=hK
  simp only [okOp,Bool.and_eq_true] at hop
  have ht:=hop.1.1
  have hke:tyKnown e = true:=by
   have h2:=hop.2
   rw [he] at h2
   simp only [Bool.and_eq_true] at h2
   exact h2.1
  have hun:=ty_slice ht he
  have hsize:=ty_size hke w
  have hrun:(execOp a.eval { dst:=dst,op:=Op.buildSlice t 0 ⟨[]⟩,type:=type,pos:=pos,after:=after,guard:=gd }).run Tryz.prog w = .ok (.value (.slice (some ⟨w.heap.size,0,none⟩) 0 0)) (w.alloc (.cells #[] e)):=by
   simp only [execOp,Instr.buildSlice,Sem.run_bind,run_underlying hun,Result.andThen_ok,hsize,Nat.zero_mul,Sem.run_ite,Sem.run_pure]
   rw [if_neg (show ¬ (0 > 2 ^ 24) by decide),if_pos True.intro]
   rw [show (Array.range 0).map (fun x=>(#[]:Array Value)[x % (#[]:Array Value).size]!) = #[] from by simp]
   simp only [Array.map_empty,Instr.fill]
   rfl
  have hb:Below w.heap.size w (w.alloc (.cells #[] e)):=(Below.refl _ _).alloc (Nat.le_refl _) _
  have h2:=h.grow hb (I':=fun b k=>I b k ∨ (z0 = true ∧ b = w.heap.size ∧ k = 0)) (fun _ _ h=>.inl h) (fun b k hk=>by
   rcases hk with hk | ⟨_,hk,_⟩
   ·exact .inl hk
   ·exact .inr ⟨by omega,by simp [hk]⟩)
  have h3:=h2.newObj (.row z0 e []) (.slice (some ⟨w.heap.size,0,none⟩) 0 0) ⟨[],by rw [upd_same];exact World.ownsRow_made w #[] 0 (Nat.zero_le _) (Nat.zero_le _) (by simp),by simp,.nil _ _,fun b hb=>by
   rw [upd_same] at hb
   have hb:=Option.some.inj hb
   subst hb
   refine ⟨fun hz=>.inr ⟨hz,rfl,by simp⟩,fun k hk=>?_,.inl h.fr.size⟩
   rcases hk with hk | ⟨hz,_,hk⟩
   ·exact absurd (h.lt _ _ hk).1 (Nat.lt_irrefl _)
   ·exact ⟨hz,by rw [hk];exact Nat.zero_le _⟩⟩ (fun j b hj hb hb'=>by
   have hb':w.heap.size = b:=hb'
   have h4:=h.blk_lt hj hb
   omega)
  unfold Oper.wp
  rw [hrun,Oper.upon_value]
  exact ⟨_,⟨_,_,(RelI.freshly h3).put (x:=.own (lenO s.o)) (.own _ _ _ _ (by rw [lenO_is,upd_same];rfl)) _⟩,hK⟩
 ·rename_i x y t u
  simp only [okOp,Bool.and_eq_true] at hop
  obtain ⟨⟨⟨h1,h2⟩,h3⟩,h4⟩:=hop
  rw [eqN_is] at h3
  subst h3
  refine append_ok h rfl h1 (fun e he=>?_) hK
  rw [he] at h4
  simp only [Nat.blt_eq] at h4
  exact ⟨elem_known h2 e he,h4⟩
 ·rename_i t n ps
  split at hK
  ·obtain ⟨c,hK⟩:=hK
   cases c with
   | true=>exact calm_ok h hop hK
   | false=>exact lit_ok h rfl hop hK
  ·exact calm_ok h hop hK
 ·rename_i f args ts
  split at hK
  ·exact callo_ok h (fun hf=>enter_run (cs:=[]) rfl rfl hf) (by rw [List.append_nil];exact h.gets args.toList) hK
  ·exact calm_ok h hop hK
 ·rename_i i args ts
  split at hK
  ·split at hK <;> try exact hK.elim
   rename_i f ks hf
   obtain ⟨cs,hc1,hc2⟩:=fnV_at h hf
   exact callo_ok h (fun hf=>enter_run (cs:=cs) rfl hc1 hf) (by rw [appV_is];exact (h.gets args.toList).append hc2) hK
  ·exact calm_ok h hop hK
 ·exact calm_ok h hop hK
end
end
section
def inD:List (Option Nat) → Nat → Bool
 | [],_=>false
 | some x :: l,i=>match eqN x i with | true=>true | false=>inD l i
 | none :: l,i=>inD l i
def ldSlot:Oper → Option Nat
 | ⟨_,.load _ (.tmp i),_,_,_,none⟩=>some i
 | _=>none
def stSlot (dsts:List (Option Nat)):Oper → Option Nat
 | ⟨none,.store _ (.tmp i) _,_,_,_,none⟩=>match inD dsts i with | true=>none | false=>some i
 | _=>none
def slotsOf (f:Oper → Option Nat):List Oper → List Nat
 | []=>[]
 | o :: l=>match f o with | some i=>i :: slotsOf f l | none=>slotsOf f l
def addrSrc:Op → Option Nat
 | .move (.tmp j)=>some j
 | .nilCheck (.tmp j)=>some j
 | .fieldAddr _ (.tmp j) _=>some j
 | .indexAddr _ (.tmp j) _=>some j
 | _=>none
def srcIn:List Oper → Nat → Option Nat
 | [],_=>none
 | o :: l,i=>match o.dst with
  | some d=>match eqN d i with | true=>addrSrc o.op | false=>srcIn l i
  | none=>srcIn l i
def chainP (dsts:List (Option Nat)) (ops:List Oper) (k:Nat):Nat → Nat → Option (List (Nat × Nat))
 | 0,_=>none
 | f + 1,i=>match inD dsts i with
  | false=>match eqN i k with | true=>none | false=>some [(i,k)]
  | true=>match srcIn ops i with
   | some j=>match chainP dsts ops k f j with | some l=>some ((i,k) :: l) | none=>none
   | none=>none
def pairsK (dsts:List (Option Nat)) (ops:List Oper) (i:Nat):List Nat → List (Nat × Nat)
 | []=>[]
 | k :: ks=>match chainP dsts ops k 8 i with
  | some l=>l ++ pairsK dsts ops i ks
  | none=>pairsK dsts ops i ks
def pairsC (dsts:List (Option Nat)) (ops:List Oper) (ks:List Nat):List Nat → List (Nat × Nat)
 | []=>[]
 | i :: l=>pairsK dsts ops i ks ++ pairsC dsts ops ks l
def lsPairs (ops:List Oper):List (Nat × Nat):=match slotsOf (stSlot (dstsOf ops)) ops with
 | []=>[]
 | k :: ks=>pairsC (dstsOf ops) ops (k :: ks) (slotsOf ldSlot ops)
def keepB (prs:List (Nat × Nat)) (o:Oper):Bool:=match o.dst with
 | none=>true
 | some d=>prs.all fun p=>notB (eqN d p.2) && (notB (eqN d p.1) || match addrSrc o.op with | some j=>prs.contains (j,p.2) | none=>false)
def distB:V → V → Bool
 | .ptr j _,.ptr m _=>notB (eqN j m)
 | .el j _ _ _,.el m _ _ _=>notB (eqN j m)
 | .own j,.el m _ _ _=>notB (eqN j m)
 | .bs j _,.ptr m _=>notB (eqN j m)
 | _,_=>true
def preOk:List (Nat × Nat) → List V → Bool
 | [],_=>true
 | (i,k) :: l,t=>match distB (getN t i) (getN t k) with | true=>preOk l t | false=>false
def direct (o:Oper):List Nat:=(o.after.toList.filter fun e=>Region.binds .any e).map (·.on)
def ancs:List Oper → List (List Nat) → List (List Nat)
 | [],acc=>acc
 | o :: l,acc=>ancs l (acc ++ [(direct o).flatMap fun j=>j :: acc.getD j []])
def isTot (ops:List Oper) (i:Nat):Bool :=
 let an:=ancs ops []
 (List.range ops.length).all fun j=>Nat.beq j i || (Nat.blt j i && (an.getD i []).contains j) || (Nat.blt i j && (an.getD j []).contains i)
def turns (s:S) (x:Operand) (args:List Operand):Option (Nat × List V):=match fnV (s.get x) with
 | some (f,ks)=>match toRs s.o (appV (getVs s.get args) (caps ks)) with
  | some _=>none
  | none=>some (f,appV (getVs s.get args) (caps ks))
 | none=>none
def blindB:Op → Bool
 | .move _=>true
 | .assign _=>true
 | .pick _ _ _=>true
 | .fieldAddr _ _ _=>true
 | .field _ _ _=>true
 | .index _ _ _=>true
 | .binOp _ _ _ _ _=>true
 | .unOp _ _ _=>true
 | .convert _ _ _=>true
 | .build _ _=>true
 | .extract _ _=>true
 | .makeFunc _ _ _=>true
 | .nilCheck _=>true
 | _=>false
def tmps:List Operand → List Nat
 | []=>[]
 | .tmp t :: l=>t :: tmps l
 | _ :: l=>tmps l
def looks (dsts:List (Option Nat)) (o:Oper):List Nat:=(match o.guard with
 | some (j,_)=>match getD dsts j with | some d=>[d] | none=>[]
 | none=>[]) ++ tmps o.op.operands.toList
def notIn (d:Option Nat) (l:List Nat):Bool:=match d with | some x=>!l.contains x | none=>true
def besideOk (dsts:List (Option Nat)):Oper → Option (List Nat)
 | ⟨_,.load _ (.tmp k),_,_,_,none⟩=>match inD dsts k with | true=>none | false=>some [k]
 | o=>match blindB o.op with | true=>some [] | false=>none
def isCallV:Op → Bool
 | .call ⟨.value _,_,_⟩=>true
 | _=>false
def besideL (dsts:List (Option Nat)) (an:List (List Nat)) (i:Nat) (oi:Oper):Nat → List Oper → Option (List Nat)
 | _,[]=>some []
 | j,o :: l=>match Nat.beq j i with
  | true=>besideL dsts an i oi (j + 1) l
  | false=>match Nat.blt j i with
   | true=>match (an.getD i []).contains j with
    | true=>besideL dsts an i oi (j + 1) l
    | false=>match notIn o.dst (looks dsts oi) && notIn oi.dst (looks dsts o) && (o.dst.isNone || o.dst != oi.dst) with
     | true=>match besideOk dsts o with
      | some ks=>match besideL dsts an i oi (j + 1) l with | some ms=>some (ks ++ ms) | none=>none
      | none=>none
     | false=>none
   | false=>match (an.getD j []).contains i with
    | true=>besideL dsts an i oi (j + 1) l
    | false=>none
def beside (all:List Oper) (i:Nat):Option (List Nat):=match takeN 1 (dropN i all) with
 | some [oi]=>match isCallV oi.op && oi.guard.isNone with
  | true=>besideL (dstsOf all) (ancs all []) i oi 0 all
  | false=>none
 | _=>none
def stepD (a:Ar) (all:List Oper) (i:Nat) (s:S) (dst:Option Nat) (K:S → Prop):Op → Prop
 | .call ⟨.value x,args,ts⟩=>match turns s x args.toList with
  | some (f,vs)=>match isTot all i with
   | true=>a.callo f vs s (fun v s'=>K (s'.put dst v))
   | false=>match beside all i with
    | some l=>a.callx f vs l s (fun v s'=>K (s'.put dst v))
    | none=>step a false s dst K (.call ⟨.value x,args,ts⟩)
  | none=>step a false s dst K (.call ⟨.value x,args,ts⟩)
 | op=>step a false s dst K op
def execD (a:Ar) (dsts:List (Option Nat)) (all:List Oper) (i:Nat):Oper → S → (S → Prop) → Prop
 | ⟨dst,op,_,_,_,none⟩,s,K=>stepD a all i s dst K op
 | ⟨dst,op,_,_,_,some (j,b)⟩,s,K=>guard s dsts j fun
  | some c=>match bEq c b with
   | true=>stepD a all i s dst K op
   | false=>K (s.put dst vun)
  | none=>K (s.put dst vun)
def runD (a:Ar) (dsts:List (Option Nat)) (all:List Oper):Nat → List Oper → S → (S → Prop) → Prop
 | _,[],s,K=>K s
 | i,o :: l,s,K=>execD a dsts all i o s (fun s=>runD a dsts all (i + 1) l s K)
def exec (a:Ar):Code → S → (X → S → Prop) → Prop
 | .skip,s,K=>K .normal s
 | .region _ ops d,s,K=>match d with
  | false=>runE a (dstsOf ops.toList) ops.toList s (fun s=>K .normal s)
  | true=>match hasIt s.o with
   | true=>a.reg ops s (fun s=>K .normal s)
   | false=>match preOk (lsPairs ops.toList) s.t with
    | true=>runD a (dstsOf ops.toList) ops.toList 0 ops.toList s (fun s=>K .normal s)
    | false=>False
 | .seq c d,s,K=>exec a c s (fun x s=>thenX (fun s=>a.next (fun s=>exec a d s K) s) K x s)
 | .cond c d e,s,K=>match s.get c with
  | .d (.sc (.bool b))=>match b with
   | true=>exec a d s K
   | false=>exec a e s K
  | _=>False
 | .block id c,s,K=>exec a c s (fun x s=>blockX id K x s)
 | .exit i,s,K=>K (.exit i) s
 | .ret,s,K=>K .ret s
 | .loop c,s,K=>a.loop c (fun s K=>exec a c s K) s K
 | _,_,_=>False
def okOps (P:Program) (ops:List Oper):Bool:=ops.all fun o=>okOp P o.op
section
variable {I0:Nat → Nat → Prop} {X:Nat → Prop} {w0:W0} {I:Nat → Nat → Prop} {g:Nat → Value} {s:S} {a:Act} {w:World}
def cutG (n:Nat) (g:Nat → Value):Nat → Value:=fun k=>if k < n then g k else .nilFunc
theorem lowV_at {g':Nat → Value} {n:Nat} (hg:∀ k,k < n → g' k = g k) {v:Value} {x:V} (h:AtV I w g v x) (hl:lowV n x = true):AtV I w g' v x:=by
 cases h with
 | d h=>exact .d h
 | ag us cs h1 h2=>cases hl
 | tu us cs h1 h2=>cases hl
 | em=>exact .em
 | own k A m cap h=>exact .own k A m cap ((congrArg gv (hg k (by simpa [lowV,Nat.blt_eq] using hl))).trans h)
 | ptr k off b h=>exact .ptr k off b ((hg k (by simpa [lowV,Nat.blt_eq] using hl)).trans h)
 | cl f us ks hu h =>
  rw [lowV] at hl
  exact .cl f us ks hu fun i u k hi hk=>by
   obtain ⟨h1,b,h2⟩:=h i u k hi hk
   have h3:=hg k (lowN_at hl hk)
   exact ⟨h1.trans h3.symm,b,h3.trans h2⟩
 | el k i sz off b m cap h=>exact .el k i sz off b m cap ((hg k (by simpa [lowV,Nat.blt_eq] using hl)).trans h)
 | ro b o off us cs h1 h2 h3=>exact .ro b o off us cs h1 h2 h3
 | mp k b h=>exact .mp k b ((hg k (by simpa [lowV,Nat.blt_eq] using hl)).trans h)
 | bs k n' b cap h hn=>exact .bs k n' b cap ((hg k (by simpa [lowV,Nat.blt_eq] using hl)).trans h) hn
 | jk v=>exact .jk v
theorem lowL_at {g':Nat → Value} {n:Nat} (hg:∀ k,k < n → g' k = g k):∀ {cs:List V} {us:List Value},AtVs I w g us cs → lowL n cs = true → AtVs I w g' us cs
 | [],us,h,_=>by rw [h.unnil];exact .nil I w g'
 | c :: cs,us,h,hl=>by
  obtain ⟨u,us',rfl,h1,h2⟩:=h.uncons
  rw [lowL] at hl
  split at hl
  ·rename_i hc;exact .cons (lowV_at hg h1 hc) (lowL_at hg h2 hl)
  ·cases hl
theorem low2_at {g':Nat → Value} {n:Nat} (hg:∀ k,k < n → g' k = g k) {v:Value} {x:V} (h:AtV I w g v x) (hl:low2 n x = true):AtV I w g' v x:=by
 cases x with
 | ag cs=>obtain ⟨us,rfl,h2⟩:=h.unag;exact atV_ag (lowL_at hg h2 hl)
 | tu cs =>
  cases cs with
  | nil =>
   obtain ⟨us,rfl,h2⟩:=h.untu
   rw [h2.unnil]
   exact atV_tu (.nil I w g')
  | cons c cs=>cases hl
 | d x=>exact lowV_at hg h hl
 | em=>exact lowV_at hg h hl
 | own k=>exact lowV_at hg h hl
 | ptr k off=>exact lowV_at hg h hl
 | cl f ks=>exact lowV_at hg h hl
 | el k i sz off=>exact lowV_at hg h hl
 | ro cs off=>exact lowV_at hg h hl
 | mp k=>exact lowV_at hg h hl
 | bs k n'=>exact lowV_at hg h hl
 | jk=>exact .jk _
theorem lowT_at {g':Nat → Value} {n:Nat} (hg:∀ k,k < n → g' k = g k):∀ {cs:List V} {us:List Value},AtVs I w g us cs → lowT n cs = true → AtVs I w g' us cs
 | [],us,h,_=>by rw [h.unnil];exact .nil I w g'
 | c :: cs,us,h,hl=>by
  obtain ⟨u,us',rfl,h1,h2⟩:=h.uncons
  rw [lowT] at hl
  split at hl
  ·rename_i hc;exact .cons (low2_at hg h1 hc) (lowT_at hg h2 hl)
  ·cases hl
theorem weakL_at:∀ {l m:List V} {us:List Value},AtVs I w g us l → weakL l m → AtVs I w g us m
 | [],[],us,h,_=>h
 | [],_ :: _,us,h,hw=>by cases hw
 | x :: l,[],us,h,hw=>by cases hw
 | x :: l,y :: m,us,h,hw=>by
  obtain ⟨u,us',rfl,h1,h2⟩:=h.uncons
  by_cases hy:y = .jk
  ·subst hy
   exact .cons (.jk _) (weakL_at h2 hw)
  ·have hw':x = y ∧ weakL l m:=by
    cases y <;> first | exact absurd rfl hy | exact hw
   exact .cons (hw'.1 ▸ h1) (weakL_at h2 hw'.2)
theorem subN_at:∀ {l m:List Nat},subN l m = true → ∀ j ∈ l,j ∈ m
 | [],m,_,j,hj=>by simp at hj
 | k :: l,m,h,j,hj=>by
  rw [subN] at h
  split at h
  ·rename_i hk
   rcases List.mem_cons.1 hj with rfl | hj
   ·exact memN_is.1 hk
   ·exact subN_at h j hj
  ·cases h
theorem weakO_get:∀ {l m:List O},weakO l m → m.length ≤ l.length ∧ ∀ (k:Nat) (o':O),m[k]? = some o' → o' = O.dead ∨ (∃ cs ds,l[k]? = some (.box cs) ∧ o' = .box ds ∧ weakL cs ds) ∨ (∃ ks js,l[k]? = some (.kl ks) ∧ o' = .kl js ∧ subN ks js = true) ∨ (l[k]? = some o' ∧ (∀ cs,o' ≠ .box cs) ∧ ∀ ks,o' ≠ .kl ks)
 | l,[],_=>⟨Nat.zero_le _,fun k o' h=>by simp at h⟩
 | [],y :: m,h=>by cases y <;> cases h
 | x :: l,y :: m,h=>by
  have key:weakO l m ∧ (y = .dead ∨ (∃ cs ds,x = .box cs ∧ y = .box ds ∧ weakL cs ds) ∨ (∃ ks js,x = .kl ks ∧ y = .kl js ∧ subN ks js = true) ∨ (x = y ∧ (∀ cs,y ≠ .box cs) ∧ ∀ ks,y ≠ .kl ks)):=by
   cases y with
   | dead=>cases x <;> exact ⟨h,.inl rfl⟩
   | box ds=>cases x <;> first | exact ⟨h.2,.inr (.inl ⟨_,_,rfl,rfl,h.1⟩)⟩ | cases h
   | kl js=>cases x <;> first | exact ⟨h.2,.inr (.inr (.inl ⟨_,_,rfl,rfl,h.1⟩))⟩ | cases h
   | row z e r =>
    cases x with
    | row z2 e2 r2 =>
     obtain ⟨⟨rfl,rfl,rfl⟩,h2⟩:=h
     exact ⟨h2,.inr (.inr (.inr ⟨rfl,by simp,by simp⟩))⟩
    | _=>exact h.elim
   | mp kt es =>
    cases x with
    | mp kt2 es2 =>
     obtain ⟨⟨rfl,rfl⟩,h2⟩:=h
     exact ⟨h2,.inr (.inr (.inr ⟨rfl,by simp,by simp⟩))⟩
    | _=>exact h.elim
   | it P =>
    cases x with
    | it P2 =>
     obtain ⟨rfl,h2⟩:=h
     exact ⟨h2,.inr (.inr (.inr ⟨rfl,by simp,by simp⟩))⟩
    | _=>exact h.elim
   | ob T vs =>
    cases x with
    | ob T2 vs2 =>
     obtain ⟨⟨rfl,rfl⟩,h2⟩:=h
     exact ⟨h2,.inr (.inr (.inr ⟨rfl,by simp,by simp⟩))⟩
    | _=>exact h.elim
  obtain ⟨h1,h2⟩:=weakO_get key.1
  refine ⟨by simp;exact h1,fun k o' hk=>?_⟩
  cases k with
  | zero =>
   simp at hk
   subst hk
   rcases key.2 with h | ⟨cs,ds,rfl,h4,h5⟩ | ⟨ks,js,rfl,h4,h5⟩ | ⟨rfl,h4⟩
   ·exact .inl h
   ·exact .inr (.inl ⟨cs,ds,rfl,h4,h5⟩)
   ·exact .inr (.inr (.inl ⟨ks,js,rfl,h4,h5⟩))
   ·exact .inr (.inr (.inr ⟨rfl,h4⟩))
  | succ k=>simpa using h2 k o' (by simpa using hk)
theorem RelI.weak (h:RelI I0 X w0 I g s a w) {s':S} (hn:w0.n ≤ s'.o.length) (hw:weak s s'):RelI I0 X w0 I (cutG s'.o.length g) s' a w:=by
 obtain ⟨h1,h2,h3,h4⟩:=hw
 obtain ⟨hlen,hobj⟩:=weakO_get h2
 rw [lenO_is] at h3 h4
 have hg:∀ k,k < s'.o.length → cutG s'.o.length g k = g k:=fun k hk=>if_pos hk
 refine ⟨h.im,h.lt,h.fr,h.kp,hn,fun k hk hr=>(hg k (by omega)).trans (h.st k hk hr),fun k o ho=>?_,fun j k b hj hk hbj hbk=>?_,fun k hk=>if_neg (by omega),lowT_at hg (weakL_at h.tmp h1) h3,h.dfr⟩
 ·have hk:k < s'.o.length:=(List.getElem?_eq_some_iff.1 ho).1
  rcases hobj k o ho with rfl | ⟨cs,ds,h5,rfl,h6⟩ | ⟨ks,js,h5,rfl,h6⟩ | ⟨h5,hnb,hnk⟩
  ·exact True.intro
  ·obtain ⟨b,us,t,e1,e2,e3,e4⟩:=h.obj k _ h5
   exact ⟨b,us,t,(hg k hk).trans e1,e2,lowL_at hg (weakL_at e3 h6) (lowO_at h4 ho),e4⟩
  ·obtain ⟨us,e1,e2,e3⟩:=h.obj k _ h5
   refine ⟨us,(hg k hk).trans e1,e2,fun j u hu=>?_⟩
   have hj:=(Array.getElem?_eq_some_iff.1 hu).1
   rcases e3 j u hu with e4 | e4 | e4
   ·exact .inl e4
   ·exact .inr (.inl ((hg j (by omega)).trans e4))
   ·exact .inr (.inr (subN_at h6 j e4))
  ·cases o with
   | dead=>exact True.intro
   | box cs=>exact absurd rfl (hnb cs)
   | kl ks=>exact absurd rfl (hnk ks)
   | row z e r =>
    obtain ⟨us,e1,e2,e3,e4⟩:=h.obj k _ h5
    exact ⟨us,by rw [hg k hk];exact e1,e2,e3,by rw [hg k hk];exact e4⟩
   | mp kt es =>
    obtain ⟨b,l,c,e1,e2⟩:=h.obj k _ h5
    exact ⟨b,l,c,(hg k hk).trans e1,e2⟩
   | ob T vs =>
    obtain ⟨b,e1,e2⟩:=h.obj k _ h5
    exact ⟨b,(hg k hk).trans e1,e2⟩
   | it P =>
    obtain ⟨A,n,cap,F,e1,e2⟩:=h.obj k _ h5
    exact ⟨A,n,cap,F,(hg k hk).trans e1,e2⟩
 ·have live':∀ j,live s' j → j < s'.o.length ∧ live s j:=fun j ⟨o,ho,hd⟩=>by
   refine ⟨(List.getElem?_eq_some_iff.1 ho).1,?_⟩
   rcases hobj j o ho with rfl | ⟨cs,ds,h5,_,_⟩ | ⟨ks,js,h5,_,_⟩ | ⟨h5,_⟩
   ·exact absurd rfl hd
   ·exact ⟨_,h5,by simp⟩
   ·exact ⟨_,h5,by simp⟩
   ·exact ⟨_,h5,hd⟩
  obtain ⟨hj1,hj2⟩:=live' j hj
  obtain ⟨hk1,hk2⟩:=live' k hk
  rw [hg j hj1] at hbj
  rw [hg k hk1] at hbk
  exact h.dis j k b hj2 hk2 hbj hbk
theorem Rel.weak (h:Rel I0 X w0 s a w) {s':S} (hn:w0.n ≤ s'.o.length) (hw:s = s' ∨ weak s s'):Rel I0 X w0 s' a w:=by
 obtain ⟨I,g,h⟩:=h
 rcases hw with rfl | hw
 ·exact ⟨I,g,h⟩
 ·exact ⟨I,_,h.weak hn hw⟩
theorem dsts_get:∀ (l:List Oper) (j:Nat) (d:Nat),getD (dstsOf l) j = some d → (l[j]?).bind (·.dst) = some d
 | [],j,d,h=>by cases h
 | o :: l,0,d,h=>by simpa [dstsOf,getD] using h
 | o :: l,j + 1,d,h=>by rw [dstsOf,getD] at h;simpa using dsts_get l j d h
theorem guard_at (h:Rel I0 X w0 s a w) {ops:Array Oper} {j:Nat} {K:Option Bool → Prop} (hK:guard s (dstsOf ops.toList) j K):∃ c,yielded ops a.tmps j = c ∧ K c:=by
 obtain ⟨I,g,h⟩:=h
 unfold guard at hK
 split at hK <;> try exact hK.elim
 rename_i d hd
 have hdst:=dsts_get _ _ _ hd
 rw [Array.getElem?_toList] at hdst
 have tmp:∀ x,getN s.t d = x → x ≠ .jk → ∃ v,a.tmps[d]? = some v ∧ AtV I w g v x:=fun x hx hj=>by
  have h1:=getN_some hx hj
  have hlt:d < a.tmps.toList.length:=by rw [h.tmp.1];exact (List.getElem?_eq_some_iff.1 h1).1
  exact ⟨a.tmps.toList[d],by rw [← Array.getElem?_toList];exact List.getElem?_eq_getElem hlt,h.tmp.2 d _ _ (List.getElem?_eq_getElem hlt) h1⟩
 split at hK <;> try exact hK.elim
 ·rename_i c hc
  obtain ⟨v,h1,h2⟩:=tmp _ hc (by simp)
  obtain rfl:=h2.sc
  exact ⟨some c,by simp [yielded,hdst,h1],hK⟩
 ·rename_i hc
  obtain ⟨v,h1,h2⟩:=tmp _ hc (by simp)
  obtain ⟨us,rfl,h3⟩:=h2.untu
  rw [h3.unnil] at h1
  exact ⟨none,by simp [yielded,hdst,h1],hK⟩
theorem callsFW {ro:Option Nat} {n:Nat} {P:Program} {f:FuncId} {args:Array Value} {w:World} {R:Ending → World → Prop} (h:Calls P f args w R):CallsIn (FW ro) n P f args w R:=callsIn_wide.2 h
theorem op_in {ro:Option Nat} {n:Nat} {P:Program} {o:Oper} {a:Act} {w:World} {next:Act → World → Prop} {Q:Exit → Act → World → Prop} (hd:∀ c,o.op ≠ .defer c) (h:o.wp P a w next Q):o.wpIn (FW ro) n P a w next Q:=by
 refine ⟨fun _ _=>trivial,?_⟩
 rw [Oper.semAt_eq _ _ _ hd]
 unfold Oper.wp at h
 generalize (execOp a.eval o).run P w = r at h ⊢
 cases r with
 | ok x w' =>
  cases x with
  | enter f args=>exact ⟨fun h=>(by cases h),callsFW h⟩
  | row f args=>exact ⟨fun h=>(by cases h),fun c cs _=>let ⟨v,w2,h1,h2⟩:=h c cs;⟨v,w2,h1,stepsIn_wide.2 h2⟩⟩
  | value v=>exact h
  | skip=>exact h
  | defer d=>exact h
  | _=>exact h.elim
 | halt x w'=>cases x <;> exact h
theorem no_defer {P:Program} {op:Op} (h:okOp P op = true) (c:Call) (hc:op = .defer c):False:=by subst hc;cases h
theorem step1_ok (h:Rel I0 X w0 s a w) {o:Oper} {Q:Exit → Act → World → Prop} {K:S → Prop} (hop:okOp Tryz.prog o.op = true) (hK:step1 real s o.dst K o.op):o.wp Tryz.prog a w (fun a' w'=>∃ s',Rel I0 X w0 s' a' w' ∧ K s') Q:=by
 unfold step1 at hK
 split at hK
 ·exact hK I0 X w0 a w o Q rfl rfl hop h
 ·obtain ⟨I,g,h⟩:=h
  exact step_ok h hop hK
theorem run_ok {ro:Option Nat} {n:Nat} {ops:Array Oper} {Q:Exit → Act → World → Prop} {K:S → Prop} (hQ:∀ s' a' w',Rel I0 X w0 s' a' w' → K s' → Q .normal a' w'):∀ (l:List Oper) (s:S) (a:Act) (w:World),(∀ o ∈ l,okOp Tryz.prog o.op = true) → Rel I0 X w0 s a w → runE real (dstsOf ops.toList) l s K → wpListIn (FW ro) n Tryz.prog ops Q l a w
 | [],s,a,w,_,h,hK=>hQ _ _ _ h hK
 | ⟨dst,op,type,pos,after,gd⟩ :: l,s,a,w,hok,h,hK=>by
  have hop:=hok _ (List.mem_cons_self ..)
  have hrest:∀ a' w',(∃ s',Rel I0 X w0 s' a' w' ∧ runE real (dstsOf ops.toList) l s' K) → wpListIn (FW ro) n Tryz.prog ops Q l a' w':=fun a' w' ⟨s',h1,h2⟩=>run_ok hQ l s' a' w' (fun o ho=>hok o (List.mem_cons_of_mem _ ho)) h1 h2
  have hstep:∀ {Kw:Act → World → Prop},(∀ a w,wpListIn (FW ro) n Tryz.prog ops Q l a w → Kw a w) → step1 real s dst (fun s=>runE real (dstsOf ops.toList) l s K) op → Oper.wpIn (FW ro) n Tryz.prog ⟨dst,op,type,pos,after,gd⟩ a w Kw Q:=fun hKw hs=>by
   obtain ⟨I,g,h⟩:=h
   exact op_in (fun c hc=>no_defer hop c hc) (Oper.wp_mono (fun a' w' hx=>hKw _ _ (hrest a' w' hx)) (step1_ok ⟨I,g,h⟩ (o:=⟨dst,op,type,pos,after,gd⟩) (Q:=Q) hop hs))
  have hskip:runE real (dstsOf ops.toList) l (s.put dst vun) K → wpListIn (FW ro) n Tryz.prog ops Q l (a.put dst undef) w:=fun hs=>by
   obtain ⟨I,g,h⟩:=h
   exact run_ok hQ l _ _ w (fun o ho=>hok o (List.mem_cons_of_mem _ ho)) ⟨I,g,h.put (x:=vun) (.tu [] [] rfl (fun i u c hu _=>by simp at hu)) dst⟩ hs
  refine wpListIn_step fun Kw hKw=>?_
  cases gd with
  | none =>
   rw [if_pos (by rfl)]
   rw [runE] at hK
   exact hstep hKw hK
  | some jb =>
   obtain ⟨j,b⟩:=jb
   rw [runE] at hK
   obtain ⟨c,hc,hK⟩:=guard_at h hK
   have hw:Region.wanted ⟨dst,op,type,pos,after,some (j,b)⟩ (yielded ops a.tmps) = (c == some b):=by simp [Region.wanted,hc]
   rw [hw]
   cases c with
   | none =>
    rw [if_neg (by simp)]
    exact ⟨fun _ _=>trivial,hKw _ _ (hskip hK)⟩
   | some c =>
    simp only at hK
    split at hK
    ·rename_i hb
     rw [bEq_is] at hb
     rw [if_pos (by simpa using hb)]
     exact hstep hKw hK
    ·rename_i hb
     rw [bEq_is] at hb
     rw [if_neg (by simpa using hb)]
     exact ⟨fun _ _=>trivial,hKw _ _ (hskip hK)⟩
end
end
end Go.Proofs.YtahpnackkmbmgaaGreatDoor.Vm
end
