/- Part 15 of the proof. Conditions: none. -/
import Derived.Test.YtahpnackkmbmgaaGreatE4
import Derived.Test.YtahpnackkmbmgaaGreatE14
import Derived.Test.YtahpnackkmbmgaaGreatE0
set_option linter.all false
set_option linter.unusedVariables false
set_option linter.unusedSimpArgs false
section
namespace Go.Proofs.YtahpnackkmbmgaaGreat.Vm
open Go.RowKit
set_option maxRecDepth 100000
set_option maxHeartbeats 4000000
section
abbrev tK (T:List (List D)) (a k:Int) (s:ByteArray) (n p:Int):Prop:=f7.get T a=some [.sc (.int .u8 k),.sc (.string s),.sc (.int .i64 n),.sc (.int .i64 p)]
abbrev wI (a b c:Int):Prop:=IntKind.i64.wrap (a+b)=c
abbrev aT (T:List (List D)):R:=.one (.sl 4 T)
abbrev aI (a:Int):R:=.one (.sc (.int .i64 a))
abbrev aS (s:ByteArray):R:=.one (.sc (.string s))
abbrev lT (op:Int) (nm ar:ByteArray) (h:Bool) (y:Nat→D):List D:=[.sc (.int .u8 op),.sc (.string nm),.sc (.string ar),.sc (.int .i64 0),.sc (.bool h),y 0,y 1,y 2,y 3,.sl 0 []]
abbrev z4:Nat→D:=fun i=>match i with|0=>.sc (.int .u8 0)|1=>.sc (.string ⟨#[]⟩)|2=>.sc (.int .i64 0)|_=>.sl 0 []
abbrev z11:Nat→D:=fun i=>match i with|0=>.sc (.int .u8 0)|1=>.sc (.string ⟨#[]⟩)|2=>.sc (.string ⟨#[]⟩)|3=>.sc (.int .i64 0)|4=>.sc (.bool false)|5=>.sc (.int .u8 0)|6=>.sc (.string ⟨#[]⟩)|7=>.sc (.int .i64 0)|_=>.sl 0 []
abbrev gG (x:Nat→D) (n c:Int):List D:=[x 0,x 1,x 2,x 3,x 4,x 5,x 6,x 7,x 8,x 9,x 10,.sc (.int .i64 n),.sc (.int .i64 c)]
abbrev zS:Nat→D:=fun i=>match i with|0=>.sc (.int .u8 0)|1=>.sc (.string ⟨#[]⟩)|2=>.sc (.string ⟨#[]⟩)|3=>.sc (.int .i64 0)|4=>.sc (.bool false)|5=>.sc (.int .u8 0)|6=>.sc (.string ⟨#[]⟩)|7=>.sc (.int .i64 0)|8=>.sl 4 []|9=>.sl 10 []|_=>.sl 1 []
abbrev zG (a c:Int):List D:=gG zS a c
abbrev S6N (T:List (List D)) (s:ByteArray) (a:Int) (b:Bool):Prop:=o9 36 [aT T,aI a,aS s] [.one (.sc (.bool b))]
abbrev WrN (a c:Int):Prop:=o9 53 [aI a,aI c] [.ag (zG a c)]
abbrev AmN (T:List (List D)) (a:Int) (l:List ByteArray) (r:ByteArray):Prop:=o9 54 [aT T,aI a,.one (.sl 1 (l.map fun s=>[.sc (.string s)]))] [aS r]
abbrev PrN (T:List (List D)) (a L:Int) (x:List D) (n c:Int):Prop:=o9 88 [aT T,aI a,aI L] [.ag x,aI n,aI c]
abbrev E6N (f:Nat) (T:List (List D)) (a L:Int) (r:List D):Prop:=o9 f [aT T,aI a,aI L] [.ag r]
abbrev ExN:List (List D)→Int→Int→List D→Prop:=E6N 25
abbrev BiN (T:List (List D)) (a L k:Int) (r:List D):Prop:=o9 58 [aT T,aI a,aI L,aI k] [.ag r]
abbrev FiN (T:List (List D)) (a L p:Int) (r:List D):Prop:=o9 143 [aT T,aI a,aI L,aI p] [.ag r]
abbrev ThN (T:List (List D)) (x:Nat→D) (n c:Int) (s:ByteArray) (L:Int) (r:List D):Prop:=o9 56 [aT T,.ag (gG x n c),aS s,aI L] [.ag r]
abbrev ClN (T:List (List D)) (x:Nat→D) (n c:Int) (s:ByteArray) (r:List D):Prop:=o9 135 [aT T,.ag (gG x n c),aS s] [.ag r]
abbrev FuN (T:List (List D)) (a L p op:Int) (nm:ByteArray) (r:List D):Prop:=B0 55 [.d (.sl 4 T),vi .i64 a,vi .i64 L,vi .i64 p,.ag (b2Z op nm ⟨#[]⟩ 0 false)] [] (fun v o2=>v=[.ag (A7 r)]∧o2=[])
abbrev NdN (op:Int) (nm ar:ByteArray) (n p m:Int) (ks:List (List D)) (r:List D):Prop:=B0 57 [.ag (b2Z op nm ar n false),vi .i64 p,vi .i64 m,.d (.sl 13 ks)] [] (fun v o2=>v=[.ag (A7 r)]∧o2=[])
abbrev Nd0 (op:Int) (nm ar:ByteArray) (n p m:Int) (r:List D):Prop:=B0 57 [.ag (b2Z op nm ar n false),vi .i64 p,vi .i64 m,.em] [] (fun v o2=>v=[.ag (A7 r)]∧o2=[])
abbrev NdA (op:Int) (nm ar:ByteArray) (h:Bool) (y:Nat→D) (p m:Int) (ks:List (List D)) (r:List D):Prop:=B0 57 [.ag (b3a op nm ar 0 h (y 0) (y 1) (y 2) (y 3)),vi .i64 p,vi .i64 m,.d (.sl 13 ks)] [] (fun v o2=>v=[.ag (A7 r)]∧o2=[])
theorem c47 (a c:Int):o9 53 [aI a,aI c] [.ag (gG z11 a c)]:=wk Tryz.func53 rfl
theorem K8 (a c:Int):WrN a c:=(c47 a c).likeq ⟨.ag (by repeat (first|exact .nil|refine .cons (.refl _) ?_|refine .cons (.nil _ _) ?_)),trivial⟩
section
variable {T:List (List D)} {a a1 a2 a3 L L1 p n n1 m m1 c d k k1 k2 u1 u2 u3 u4:Int} {x y z x4 y4:Nat→D} {s s1 s2 g:ByteArray} {b:Bool} {r:List D}
theorem c94 (h0:o9 61 [aT T,aI a,aS s] [.one (.sc (.bool b))]):S6N T s a b:=wk Tryz.func36 rfl
theorem c95 (b0:(c == 0)=false):ClN T x n c s (gG x n c):=wk Tryz.func135 rfl
theorem c96 (h0:S6N T s n false) (h1:WrN n 5):ClN T x n 0 s (zG n 5):=wk Tryz.func135 rfl
theorem c97 (h0:S6N T s n true) (w0:wI n 1 n1):ClN T x n 0 s (gG x n1 0):=wk Tryz.func135 rfl
theorem d1w (b0:(c == 0)=false):ThN T x n c s L (gG x n c):=wk Tryz.func56 rfl
theorem d1x (h0:S6N T s n false) (h1:WrN n 5):ThN T x n 0 s L (zG n 5):=wk Tryz.func56 rfl
theorem d1y (h0:S6N T s n true) (w0:wI n 1 n1) (h1:ExN T n1 L (gG y m d)):ThN T x n 0 s L (gG y m d):=wk Tryz.func56 rfl
theorem d1z (g0:tK T a k s u1 u2) (b0:(k == 1)=true) (w0:wI a 1 a1):PrN T a L (lT 0 ⟨#[]⟩ s false z4) a1 0:=wk Tryz.func88 rfl
theorem d10 (g0:tK T a k s u1 u2) (b0:(k == 1)=false) (h0:S6N T ⟨#[40]⟩ a false):PrN T a L (lT 0 ⟨#[]⟩ ⟨#[]⟩ false z4) a 5:=wk Tryz.func88 rfl
theorem d11 (g0:tK T a k s u1 u2) (b0:(k == 1)=false) (h0:S6N T ⟨#[40]⟩ a true) (w0:wI a 1 a1) (g1:tK T a1 k1 s1 u4 u3) (b1:(k1 == 1)=false):PrN T a L (lT 0 ⟨#[]⟩ ⟨#[]⟩ false z4) a1 5:=wk Tryz.func88 rfl
theorem d12 (g0:tK T a k s u1 u2) (b0:(k == 1)=false) (h0:S6N T ⟨#[40]⟩ a true) (w0:wI a 1 a1) (g1:tK T a1 k1 s1 u4 u3) (b1:(k1 == 1)=true) (w1:wI a 2 a2) (h1:S6N T ⟨#[58]⟩ a2 false):PrN T a L (lT 0 ⟨#[]⟩ ⟨#[]⟩ false z4) a2 5:=wk Tryz.func88 rfl
theorem d13 (g0:tK T a k s u1 u2) (b0:(k == 1)=false) (h0:S6N T ⟨#[40]⟩ a true) (w0:wI a 1 a1) (g1:tK T a1 k1 s1 u4 u3) (b1:(k1 == 1)=true) (w1:wI a 2 a2) (h1:S6N T ⟨#[58]⟩ a2 true) (w2:wI a 3 a3) (w3:wI L 1 L1) (h2:RdZ 109 T a3 L1 [x4 0,x4 1,x4 2,x4 3] n c) (b2:(c == 0)=false):PrN T a L (lT 0 ⟨#[]⟩ ⟨#[]⟩ false z4) n c:=wk Tryz.func88 rfl
theorem c98 (g0:tK T a k s u1 u2) (b0:(k == 1)=false) (h0:S6N T ⟨#[40]⟩ a true) (w0:wI a 1 a1) (g1:tK T a1 k1 s1 u4 u3) (b1:(k1 == 1)=true) (w1:wI a 2 a2) (h1:S6N T ⟨#[58]⟩ a2 true) (w2:wI a 3 a3) (w3:wI L 1 L1) (h2:RdZ 109 T a3 L1 [x4 0,x4 1,x4 2,x4 3] n 0) (h3:S6N T ⟨#[41]⟩ n false):PrN T a L (lT 0 ⟨#[]⟩ ⟨#[]⟩ false z4) n 5:=wk Tryz.func88 rfl
theorem d14 (g0:tK T a k s u1 u2) (b0:(k == 1)=false) (h0:S6N T ⟨#[40]⟩ a true) (w0:wI a 1 a1) (g1:tK T a1 k1 s1 u4 u3) (b1:(k1 == 1)=true) (w1:wI a 2 a2) (h1:S6N T ⟨#[58]⟩ a2 true) (w2:wI a 3 a3) (w3:wI L 1 L1) (h2:RdZ 109 T a3 L1 [x4 0,x4 1,x4 2,x4 3] n 0) (h3:S6N T ⟨#[41]⟩ n true) (w4:wI n 1 n1) (h4:o9 97 [.ag [x4 0,x4 1,x4 2,x4 3]] [.ag [y4 0,y4 1,y4 2,y4 3]]):PrN T a L (lT 0 ⟨#[]⟩ s1 true y4) n1 0:=wk Tryz.func88 rfl
theorem d15 (h0:PrN T a L (lT 0 ⟨#[]⟩ s b y4) n c) (b0:(c == 0)=false) (h1:WrN n c):FuN T a L p k g (zG n c):=wkr Tryz.func55 rfl
theorem d16 (h0:PrN T a L (lT 0 ⟨#[]⟩ s b y4) n 0) (h1:S6N T ⟨#[61,62]⟩ n true) (w0:wI n 1 n1) (w1:wI L 1 L1) (h2:ExN T n1 L1 (gG x m c)) (o0:NdA k g s b y4 p m [gG x m c] (gG z m1 d)):FuN T a L p k g (gG z m1 d):=wkr Tryz.func55 rfl
theorem d17 (h0:PrN T a L (lT 0 ⟨#[]⟩ s b y4) n 0) (h1:S6N T ⟨#[61,62]⟩ n false) (g0:tK T n k1 s1 u1 u2) (o0:FuN T n L u2 35 ⟨#[]⟩ (gG x m c)) (o1:NdA k g s b y4 p m [gG x m c] (gG z m1 d)):FuN T a L p k g (gG z m1 d):=wkr Tryz.func55 rfl
theorem c99 (l0:decide (200<L)=true) (h0:WrN a 6):ExN T a L (zG a 6):=wk Tryz.func25 rfl
theorem c9A (l0:decide (200<L)=false) (g0:tK T a k s u1 u2) (h0:AmN T a [⟨#[102,117,110]⟩,⟨#[114,101,99]⟩,⟨#[108,101,116]⟩,⟨#[105,102]⟩] ⟨#[102,117,110]⟩) (w0:wI a 1 a1) (o0:FuN T a1 L u2 35 ⟨#[]⟩ (gG x n c)):ExN T a L (gG x n c):=wk Tryz.func25 rfl
theorem c7q (l0:decide (200<L)=false) (g0:tK T a k s u1 u2) (h0:AmN T a [⟨#[102,117,110]⟩,⟨#[114,101,99]⟩,⟨#[108,101,116]⟩,⟨#[105,102]⟩] ⟨#[114,101,99]⟩) (w0:wI a 1 a1) (g1:tK T a1 k1 s1 u4 u3) (b0:(k1 == 1)=false) (h1:WrN a1 5):ExN T a L (zG a1 5):=wk Tryz.func25 rfl
theorem c7r (l0:decide (200<L)=false) (g0:tK T a k s u1 u2) (h0:AmN T a [⟨#[102,117,110]⟩,⟨#[114,101,99]⟩,⟨#[108,101,116]⟩,⟨#[105,102]⟩] ⟨#[108,101,116]⟩) (w0:wI a 1 a1) (g1:tK T a1 k1 s1 u4 u3) (b0:(k1 == 1)=false) (h1:WrN a1 5):ExN T a L (zG a1 5):=wk Tryz.func25 rfl
theorem c9B (l0:decide (200<L)=false) (g0:tK T a k s u1 u2) (h0:AmN T a [⟨#[102,117,110]⟩,⟨#[114,101,99]⟩,⟨#[108,101,116]⟩,⟨#[105,102]⟩] ⟨#[114,101,99]⟩) (w0:wI a 1 a1) (w1:wI a 2 a2) (g1:tK T a1 k1 s1 u4 u3) (b0:(k1 == 1)=true) (o0:FuN T a2 L u2 36 s1 (gG x n c)):ExN T a L (gG x n c):=wk Tryz.func25 rfl
theorem c9C (l0:decide (200<L)=false) (g0:tK T a k s u1 u2) (h0:AmN T a [⟨#[102,117,110]⟩,⟨#[114,101,99]⟩,⟨#[108,101,116]⟩,⟨#[105,102]⟩] ⟨#[108,101,116]⟩) (w0:wI a 1 a1) (w1:wI a 2 a2) (g1:tK T a1 k1 s1 u4 u3) (b0:(k1 == 1)=true) (w2:wI L 1 L1) (h1:ThN T z11 a2 0 ⟨#[61]⟩ L1 (gG x n c)) (h2:ThN T x n c ⟨#[105,110]⟩ L1 (gG y m d)) (o0:NdN 38 s1 ⟨#[]⟩ 0 u2 m [gG x n c,gG y m d] (gG z m1 k2)):ExN T a L (gG z m1 k2):=wk Tryz.func25 rfl
theorem c9D (l0:decide (200<L)=false) (g0:tK T a k s u1 u2) (h0:AmN T a [⟨#[102,117,110]⟩,⟨#[114,101,99]⟩,⟨#[108,101,116]⟩,⟨#[105,102]⟩] ⟨#[105,102]⟩) (w0:wI a 1 a1) (w1:wI L 1 L1) (h1:ExN T a1 L1 (gG x n c)) (h2:ThN T x n c ⟨#[116,104,101,110]⟩ L1 (gG y m d)) (h3:ThN T y m d ⟨#[101,108,115,101]⟩ L1 (gG x4 a2 a3)) (o0:NdN 39 ⟨#[]⟩ ⟨#[]⟩ 0 u2 a2 [gG x n c,gG y m d,gG x4 a2 a3] (gG z m1 k2)):ExN T a L (gG z m1 k2):=wk Tryz.func25 rfl
theorem c9E (l0:decide (200<L)=false) (g0:tK T a k s u1 u2) (h0:AmN T a [⟨#[102,117,110]⟩,⟨#[114,101,99]⟩,⟨#[108,101,116]⟩,⟨#[105,102]⟩] ⟨#[]⟩) (h1:BiN T a L 1 (gG x n c)) (h2:AmN T n [⟨#[60]⟩,⟨#[61,61]⟩] s2) (b0:(c == 0)=false):ExN T a L (gG x n c):=wk Tryz.func25 rfl
theorem c9F (l0:decide (200<L)=false) (g0:tK T a k s u1 u2) (h0:AmN T a [⟨#[102,117,110]⟩,⟨#[114,101,99]⟩,⟨#[108,101,116]⟩,⟨#[105,102]⟩] ⟨#[]⟩) (h1:BiN T a L 1 (gG x n 0)) (h2:AmN T n [⟨#[60]⟩,⟨#[61,61]⟩] ⟨#[]⟩):ExN T a L (gG x n 0):=wk Tryz.func25 rfl
theorem c7s (l0:decide (200<L)=false) (g0:tK T a k s u1 u2) (h0:AmN T a [⟨#[102,117,110]⟩,⟨#[114,101,99]⟩,⟨#[108,101,116]⟩,⟨#[105,102]⟩] ⟨#[]⟩) (h1:BiN T a L 1 (gG x n 0)) (h2:AmN T n [⟨#[60]⟩,⟨#[61,61]⟩] ⟨#[60]⟩) (w0:wI n 1 n1) (h3:BiN T n1 L 1 (gG y m d)) (o0:NdN 40 ⟨#[60]⟩ ⟨#[]⟩ 0 u2 m [gG x n 0,gG y m d] (gG z m1 k2)):ExN T a L (gG z m1 k2):=wk Tryz.func25 rfl
theorem c7t (l0:decide (200<L)=false) (g0:tK T a k s u1 u2) (h0:AmN T a [⟨#[102,117,110]⟩,⟨#[114,101,99]⟩,⟨#[108,101,116]⟩,⟨#[105,102]⟩] ⟨#[]⟩) (h1:BiN T a L 1 (gG x n 0)) (h2:AmN T n [⟨#[60]⟩,⟨#[61,61]⟩] ⟨#[61,61]⟩) (w0:wI n 1 n1) (h3:BiN T n1 L 1 (gG y m d)) (o0:NdN 40 ⟨#[61,61]⟩ ⟨#[]⟩ 0 u2 m [gG x n 0,gG y m d] (gG z m1 k2)):ExN T a L (gG z m1 k2):=wk Tryz.func25 rfl
theorem d18 (h0:E6N 89 T a L (gG x n c)):BiN T a L 3 (gG x n c):=wk Tryz.func58 rfl
theorem c9G (g0:tK T a k s u1 u2) (h0:AmN T a [⟨#[64]⟩,⟨#[94]⟩] ⟨#[64]⟩) (w0:wI a 1 a1) (g1:tK T a1 k1 s1 u4 u3) (b0:(k1 == 1)=false) (h1:WrN a1 5):E6N 110 T a L (zG a1 5):=wk Tryz.func110 rfl
theorem c9H (g0:tK T a k s u1 u2) (h0:AmN T a [⟨#[64]⟩,⟨#[94]⟩] ⟨#[64]⟩) (w0:wI a 1 a1) (g1:tK T a1 k1 s1 u4 u3) (b0:(k1 == 1)=true) (w1:wI L 1 L1) (w2:wI a 2 a2) (l0:decide (200<L1)=true) (h1:WrN a2 6):E6N 110 T a L (zG a2 6):=wk Tryz.func110 rfl
theorem d19 (g0:tK T a k s u1 u2) (h0:AmN T a [⟨#[64]⟩,⟨#[94]⟩] ⟨#[64]⟩) (w0:wI a 1 a1) (g1:tK T a1 k1 s1 u4 u3) (b0:(k1 == 1)=true) (w1:wI L 1 L1) (w2:wI a 2 a2) (l0:decide (200<L1)=false) (h1:E6N 110 T a2 L1 (gG x n c)) (o0:NdN 46 s1 ⟨#[]⟩ 0 u2 n [gG x n c] (gG z m d)):E6N 110 T a L (gG z m d):=wk Tryz.func110 rfl
theorem c9I (g0:tK T a k s u1 u2) (h0:AmN T a [⟨#[64]⟩,⟨#[94]⟩] ⟨#[94]⟩) (w0:wI a 1 a1) (g1:tK T a1 k1 s1 u4 u3) (b0:(k1 == 1)=false) (h1:WrN a1 5):E6N 110 T a L (zG a1 5):=wk Tryz.func110 rfl
theorem c9J (g0:tK T a k s u1 u2) (h0:AmN T a [⟨#[64]⟩,⟨#[94]⟩] ⟨#[94]⟩) (w0:wI a 1 a1) (g1:tK T a1 k1 s1 u4 u3) (b0:(k1 == 1)=true) (w1:wI L 1 L1) (w2:wI a 2 a2) (l0:decide (200<L1)=true) (h1:WrN a2 6):E6N 110 T a L (zG a2 6):=wk Tryz.func110 rfl
theorem d1A (g0:tK T a k s u1 u2) (h0:AmN T a [⟨#[64]⟩,⟨#[94]⟩] ⟨#[94]⟩) (w0:wI a 1 a1) (g1:tK T a1 k1 s1 u4 u3) (b0:(k1 == 1)=true) (w1:wI L 1 L1) (w2:wI a 2 a2) (l0:decide (200<L1)=false) (h1:E6N 110 T a2 L1 (gG x n c)) (o0:NdN 47 s1 ⟨#[]⟩ 0 u2 n [gG x n c] (gG z m d)):E6N 110 T a L (gG z m d):=wk Tryz.func110 rfl
theorem c9K (g0:tK T a k s u1 u2) (b0:(k == 1)=true) (w0:wI a 1 a1) (o0:Nd0 32 s ⟨#[]⟩ 0 u2 a1 (gG z m1 d)):E6N 125 T a L (gG z m1 d):=wk Tryz.func125 rfl
theorem c9L (g0:tK T a k s u1 u2) (b0:(k == 1)=false) (b1:(k == 2)=true) (w0:wI a 1 a1) (o0:Nd0 33 ⟨#[]⟩ ⟨#[]⟩ u1 u2 a1 (gG z m1 d)):E6N 125 T a L (gG z m1 d):=wk Tryz.func125 rfl
theorem c2p (g0:tK T a k s u1 u2) (b0:(k == 1)=false) (b1:(k == 2)=false) (h0:AmN T a [⟨#[116,114,117,101]⟩,⟨#[102,97,108,115,101]⟩,⟨#[40]⟩,⟨#[123]⟩,⟨#[99,97,115,101]⟩] ⟨#[116,114,117,101]⟩) (w0:wI a 1 a1) (o0:Nd0 34 ⟨#[]⟩ ⟨#[]⟩ 1 u2 a1 (gG z m1 d)):E6N 125 T a L (gG z m1 d):=wk Tryz.func125 rfl
theorem b9f (g0:tK T a k s u1 u2) (b0:(k == 1)=false) (b1:(k == 2)=false) (h0:AmN T a [⟨#[116,114,117,101]⟩,⟨#[102,97,108,115,101]⟩,⟨#[40]⟩,⟨#[123]⟩,⟨#[99,97,115,101]⟩] ⟨#[102,97,108,115,101]⟩) (w0:wI a 1 a1) (o0:Nd0 34 ⟨#[]⟩ ⟨#[]⟩ 0 u2 a1 (gG z m1 d)):E6N 125 T a L (gG z m1 d):=wk Tryz.func125 rfl
theorem c7u (g0:tK T a k s u1 u2) (b0:(k == 1)=false) (b1:(k == 2)=false) (h0:AmN T a [⟨#[116,114,117,101]⟩,⟨#[102,97,108,115,101]⟩,⟨#[40]⟩,⟨#[123]⟩,⟨#[99,97,115,101]⟩] ⟨#[40]⟩) (w0:wI a 1 a1) (w1:wI L 1 L1) (h1:ExN T a1 L1 (gG x n c)) (b2:(c == 0)=false) (h2:ClN T x n c ⟨#[41]⟩ (gG z m1 d)):E6N 125 T a L (gG z m1 d):=wk Tryz.func125 rfl
theorem c9M (g0:tK T a k s u1 u2) (b0:(k == 1)=false) (b1:(k == 2)=false) (h0:AmN T a [⟨#[116,114,117,101]⟩,⟨#[102,97,108,115,101]⟩,⟨#[40]⟩,⟨#[123]⟩,⟨#[99,97,115,101]⟩] ⟨#[40]⟩) (w0:wI a 1 a1) (w1:wI L 1 L1) (h1:ExN T a1 L1 (gG x n 0)) (h3:S6N T ⟨#[58]⟩ n false) (h2:ClN T x n 0 ⟨#[41]⟩ (gG z m1 d)):E6N 125 T a L (gG z m1 d):=wk Tryz.func125 rfl
theorem c7v (g0:tK T a k s u1 u2) (b0:(k == 1)=false) (b1:(k == 2)=false) (h0:AmN T a [⟨#[116,114,117,101]⟩,⟨#[102,97,108,115,101]⟩,⟨#[40]⟩,⟨#[123]⟩,⟨#[99,97,115,101]⟩] ⟨#[40]⟩) (w0:wI a 1 a1) (w1:wI L 1 L1) (h1:ExN T a1 L1 (gG x n 0)) (h3:S6N T ⟨#[58]⟩ n true) (w2:wI n 1 n1) (h4:RdZ 109 T n1 L1 [x4 0,x4 1,x4 2,x4 3] m c) (b2:(c == 0)=false) (h5:WrN m c):E6N 125 T a L (zG m c):=wk Tryz.func125 rfl
theorem c9N (g0:tK T a k s u1 u2) (b0:(k == 1)=false) (b1:(k == 2)=false) (h0:AmN T a [⟨#[116,114,117,101]⟩,⟨#[102,97,108,115,101]⟩,⟨#[40]⟩,⟨#[123]⟩,⟨#[99,97,115,101]⟩] ⟨#[40]⟩) (w0:wI a 1 a1) (w1:wI L 1 L1) (h1:ExN T a1 L1 (gG x n 0)) (h3:S6N T ⟨#[58]⟩ n true) (w2:wI n 1 n1) (h4:RdZ 109 T n1 L1 [x4 0,x4 1,x4 2,x4 3] m 0) (h5:o9 97 [.ag [x4 0,x4 1,x4 2,x4 3]] [.ag [y4 0,y4 1,y4 2,y4 3]]) (o0:NdA 51 ⟨#[]⟩ ⟨#[]⟩ true y4 u2 m [gG x n 0] (gG y a3 c)) (h6:ClN T y a3 c ⟨#[41]⟩ (gG z m1 d)):E6N 125 T a L (gG z m1 d):=wk Tryz.func125 rfl
theorem b6g (g0:tK T a k s u1 u2) (b0:(k == 1)=false) (b1:(k == 2)=false) (h0:AmN T a [⟨#[116,114,117,101]⟩,⟨#[102,97,108,115,101]⟩,⟨#[40]⟩,⟨#[123]⟩,⟨#[99,97,115,101]⟩] ⟨#[123]⟩) (h1:E6N 136 T a L (gG x n c)):E6N 125 T a L (gG x n c):=wk Tryz.func125 rfl
theorem b6h (g0:tK T a k s u1 u2) (b0:(k == 1)=false) (b1:(k == 2)=false) (h0:AmN T a [⟨#[116,114,117,101]⟩,⟨#[102,97,108,115,101]⟩,⟨#[40]⟩,⟨#[123]⟩,⟨#[99,97,115,101]⟩] ⟨#[99,97,115,101]⟩) (h1:E6N 137 T a L (gG x n c)):E6N 125 T a L (gG x n c):=wk Tryz.func125 rfl
theorem c7w (g0:tK T a k s u1 u2) (b0:(k == 1)=false) (b1:(k == 2)=false) (h0:AmN T a [⟨#[116,114,117,101]⟩,⟨#[102,97,108,115,101]⟩,⟨#[40]⟩,⟨#[123]⟩,⟨#[99,97,115,101]⟩] ⟨#[]⟩) (h1:WrN a 5):E6N 125 T a L (zG a 5):=wk Tryz.func125 rfl
theorem d1B (g0:tK T a k s u1 u2) (w0:wI a 1 a1) (h0:S6N T ⟨#[125]⟩ a1 true) (w1:wI a 2 a2) (o0:Nd0 41 ⟨#[]⟩ ⟨#[]⟩ 0 u2 a2 (gG z m1 d)):E6N 136 T a L (gG z m1 d):=wk Tryz.func136 rfl
theorem d1C (g0:tK T a k s u1 u2) (w0:wI a 1 a1) (h0:S6N T ⟨#[125]⟩ a1 false) (g1:tK T a1 k1 s1 u4 u3) (b0:(k1 == 1)=false) (h1:FiN T a1 L u2 (gG x n c)) (h2:ClN T x n c ⟨#[125]⟩ (gG z m1 d)):E6N 136 T a L (gG z m1 d):=wk Tryz.func136 rfl
theorem d1D (g0:tK T a k s u1 u2) (w0:wI a 1 a1) (h0:S6N T ⟨#[125]⟩ a1 false) (g1:tK T a1 k1 s1 u4 u3) (b0:(k1 == 1)=true) (w1:wI a 2 a2) (h3:S6N T ⟨#[58,61]⟩ a2 false) (h1:FiN T a1 L u2 (gG x n c)) (h2:ClN T x n c ⟨#[125]⟩ (gG z m1 d)):E6N 136 T a L (gG z m1 d):=wk Tryz.func136 rfl
theorem d1E (g0:tK T a k s u1 u2) (w0:wI a 1 a1) (h0:S6N T ⟨#[125]⟩ a1 false) (g1:tK T a1 k1 s1 u4 u3) (b0:(k1 == 1)=true) (w1:wI a 2 a2) (h3:S6N T ⟨#[58,61]⟩ a2 true) (w2:wI a 3 a3) (w3:wI L 1 L1) (h1:ExN T a3 L1 (gG x n c)) (h2:ThN T x n c ⟨#[124]⟩ L1 (gG y m d)) (o0:NdN 45 s1 ⟨#[]⟩ 0 u2 m [gG x n c,gG y m d] (gG z n1 k2)) (h4:ClN T z n1 k2 ⟨#[125]⟩ (gG x4 m1 p)):E6N 136 T a L (gG x4 m1 p):=wk Tryz.func136 rfl
theorem d1F (g0:tK T a k s u1 u2) (b0:(k == 1)=false) (h0:WrN a 5):FiN T a L p (zG a 5):=wk Tryz.func143 rfl
theorem d1G (g0:tK T a k s u1 u2) (b0:(k == 1)=true) (w0:wI a 1 a1) (w1:wI L 1 L1) (h0:ThN T z11 a1 0 ⟨#[61]⟩ L1 (gG x n c)) (b1:(c == 0)=false):FiN T a L p (gG x n c):=wk Tryz.func143 rfl
theorem d1H (g0:tK T a k s u1 u2) (b0:(k == 1)=true) (w0:wI a 1 a1) (w1:wI L 1 L1) (h0:ThN T z11 a1 0 ⟨#[61]⟩ L1 (gG x n 0)) (h1:AmN T n [⟨#[44]⟩,⟨#[124]⟩] ⟨#[44]⟩) (w2:wI n 1 n1) (g1:tK T n1 k1 s1 u4 u3) (h2:FiN T n1 L u3 (gG y m d)) (o0:NdN 42 s ⟨#[]⟩ 0 p m [gG x n 0,gG y m d] (gG z m1 k2)):FiN T a L p (gG z m1 k2):=wk Tryz.func143 rfl
theorem d1I (g0:tK T a k s u1 u2) (b0:(k == 1)=true) (w0:wI a 1 a1) (w1:wI L 1 L1) (h0:ThN T z11 a1 0 ⟨#[61]⟩ L1 (gG x n 0)) (h1:AmN T n [⟨#[44]⟩,⟨#[124]⟩] ⟨#[124]⟩) (w2:wI n 1 n1) (h2:ExN T n1 L1 (gG y m d)) (o0:NdN 42 s ⟨#[]⟩ 0 p m [gG x n 0,gG y m d] (gG z m1 k2)):FiN T a L p (gG z m1 k2):=wk Tryz.func143 rfl
theorem d1J (g0:tK T a k s u1 u2) (b0:(k == 1)=true) (w0:wI a 1 a1) (w1:wI L 1 L1) (h0:ThN T z11 a1 0 ⟨#[61]⟩ L1 (gG x n 0)) (h1:AmN T n [⟨#[44]⟩,⟨#[124]⟩] ⟨#[]⟩) (g1:tK T n k1 s1 u4 u3) (o1:Nd0 41 ⟨#[]⟩ ⟨#[]⟩ 0 u3 n (gG y m d)) (o0:NdN 42 s ⟨#[]⟩ 0 p m [gG x n 0,gG y m d] (gG z m1 k2)):FiN T a L p (gG z m1 k2):=wk Tryz.func143 rfl
theorem d1K (w0:wI a 1 a1) (w1:wI L 1 L1) (h0:ExN T a1 L1 (gG x n c)) (b0:(c == 0)=false):E6N 137 T a L (gG x n c):=wk Tryz.func137 rfl
theorem d1L (w0:wI a 1 a1) (w1:wI L 1 L1) (h0:ExN T a1 L1 (gG x n 0)) (h1:S6N T ⟨#[111,102]⟩ n false) (h2:WrN n 5):E6N 137 T a L (zG n 5):=wk Tryz.func137 rfl
end
end
end Go.Proofs.YtahpnackkmbmgaaGreat.Vm
end
