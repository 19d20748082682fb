/- A part of the proof of TopUsers. -/
import Derived.Test.YtcjcndnjpedniaaGreatB17
namespace Go.Proofs.YtcjcndnjpedniaaGreat
set_option linter.all false
set_option maxRecDepth 100000
set_option maxHeartbeats 8000000
open Go.RowKit
section
theorem LW {w:Bc} {g:Nat} {t:TypeId} {b c f h i j k l m n d e:Value} (a:AX w g t #[b,c,f,h,i,j,k,l,m,n,d,e]) :
  Cl w g 0 b/\Cl w g 1 c/\Cl w g 2 f/\Cl w g 3 h/\Cl w g 4 i/\Cl w g 5 j/\Cl w g 6 k/\Cl w g 7 l/\Cl w g 8 m/\Cl w g 9 n/\Cl w g 10 d/\Cl w g 11 e :=
 ⟨a.cell 0,a.cell 1,a.cell 2,a.cell 3,a.cell 4,a.cell 5,a.cell 6,a.cell 7,a.cell 8,a.cell 9,a.cell 10,a.cell 11⟩
theorem XP (ch seq op arg:Int) (s:BB) (w:Bc) (z:Ey ch) (G:ch/8192=2) (x:0<=seq) (hs1:seq<=1000) (ha:G8 op arg) (u:s.data.toList=F8 ch seq op arg) (M:s.size<=4000) :
  Calls Tryz.prog 106 #[.string s] w (Rt (.tuple #[.agg #[zI 2,zU ch,zI seq,zO,zI op,zI arg,zO,zN,zO,zO,zE,zN],zO]) (Au w)):=by
 have y:s.data.toList=BL 2++(BL ch.toNat++(BL seq.toNat++(BL 0++(BL op.toNat++(BL arg.toNat++[]))))):=by rw[u];unfold F8;simp only[Dc]
 have k:=fun d=>JO s d (by omega)
 rw[y] at k;have D:=Lh k;have F:Hid (∀ d e,BP d e (BL 2++(BL ch.toNat++(BL seq.toNat++(BL 0++(BL op.toNat++(BL arg.toNat++[]))))))->Calls Tryz.prog 140 #[zP e,.func (.func 125) #[zP e] #[]] d (Rt (.tuple #[.agg #[zI 2,zU ch,zI seq,zO,zI op,zI arg,zO,zN,zO,zO,zE,zN],.bool true]) fun C=>BP C e []/\Am (fun B=>B=e) d C)):=Lh fun d e q=>(jF q z x hs1 ha)
 have E:Hid (∀ d,Calls Tryz.prog 141 #[.agg #[zI 2,zU ch,zI seq,zO,zI op,zI arg,zO,zN,zO,zO,zE,zN]] d (Rt (.bool true) (Au d))):=Lh fun d=>XV ch seq op arg d z G x hs1 ha
 have P:decide ((s.size:Int) > 4000)=false:=by rw[Ag];omega
 have Q:decide ((4000:Int)<(s.size:Int))=false:=by rw[Ag];omega
 have b:Hid (AX (w.alloc (.cells #[zO,zU 0,zO,zO,zO,zO,zO,zN,zO,zO,zE,zN] 104)) w.heap.size 104 #[zO,zU 0,zO,zO,zO,zO,zO,zN,zO,zO,zE,zN]):=Lh (AX.new w _ _);have c:Hid (Au w (w.alloc (.cells #[zO,zU 0,zO,zO,zO,zO,zO,zN,zO,zO,zE,zN] 104))):=Lh ((Aa _ w).alloc _);clear k y u M;go_in;go_upto_region 1 with(fail)
 obtain⟨R,n⟩:∃ o,o=w.heap.size:=⟨_,rfl⟩
 generalize w.alloc (.cells #[zO,zU 0,zO,zO,zO,zO,zO,zN,zO,zO,zE,zN] 104)=O at b c ⊢;rw[<- n] at b ⊢;have p:=Lh n;clear n;go_upto_region 4 with(go_at_call 124;refine(D.out _).mono ?_;have t:=b.out.lt;rintro j S ⟨rfl,i,a⟩;have f:=Lh i;have l:=Lh t;replace b:=Lh (b.out.Ab a id);replace c:=Lh (c.out.to a);clear i a t)
 obtain⟨e,r⟩:∃ e,e=O.heap.size:=⟨_,rfl⟩
 rw[<- r] at f l ⊢;clear r;go_upto_region 5 with(go_at_call 140;refine(F.out _ _ f.out).mono ?_;have K:=f.out.lt;rintro j h ⟨rfl,i,m⟩;replace b:=Lh (b.out.Ab m (by have:=l.out;omega));replace c:=Lh (c.out.AJ m fun N a q=>by have:=l.out;have:=p.out;omega);replace f:=Lh i;clear i m K)
 have a:Au h (h.alloc (.cells #[zI 2,zU ch,zI seq,zO,zI op,zI arg,zO,zN,zO,zO,zE,zN] 104)):=(Aa _ h).alloc _;have g:Hid (AX (h.alloc (.cells #[zI 2,zU ch,zI seq,zO,zI op,zI arg,zO,zN,zO,zO,zE,zN] 104)) h.heap.size 104 #[zI 2,zU ch,zI seq,zO,zI op,zI arg,zO,zN,zO,zO,zE,zN]):=Lh (AX.new h _ _);replace b:=Lh (b.out.Ab a id);replace c:=Lh (c.out.to a);replace f:=Lh (f.out.AB a)
 skip
 generalize h.alloc (.cells #[zI 2,zU ch,zI seq,zO,zI op,zI arg,zO,zN,zO,zO,zE,zN] 104)=T at b c f g a ⊢;obtain⟨ai,A⟩:∃ o,o=h.heap.size:=⟨_,rfl⟩
 rw[<- A] at g ⊢;clear A a;go_wp2_with (first
  |(go_at_call 127;refine(Jb f.out).mono ?_;rintro j U ⟨rfl,a⟩;replace b:=Lh (b.out.Ab a id);replace g:=Lh (g.out.Ab a id);replace c:=Lh (c.out.to a);clear a;obtain⟨X,Y,aa,ab,ac,ad,ae,af,ag,ah,x10,Z⟩:=LW g.out)
  |(refine AA rfl (.tmp 5) rfl rfl g.out Tryz.underlying104 rfl BM ?_)
  |(go_at_call 141;refine(E.out _).mono ?_;rintro j V ⟨rfl,a⟩;replace b:=Lh (b.out.Ab a id);replace g:=Lh (g.out.Ab a id);replace c:=Lh (c.out.to a);clear a)
  |(refine Bo rfl (.tmp 2) (.tmp 33) rfl rfl (cs':=#[zI 2,zU ch,zI seq,zO,zI op,zI arg,zO,zN,zO,zO,zE,zN]) rfl b.out BM rfl (by simp[Value.oneCell']) ?_;intro W H J L;clear L))
 refine bodyPost_ret (v:=.tuple #[.agg #[zI 2,zU ch,zI seq,zO,zI op,zI arg,zO,zN,zO,zO,zE,zN],zO]) (CB (p:=2) (q:=3) Tryz.results106 _ rfl rfl H Tryz.underlying104 rfl BM) rfl ?_;have I:=c.out.AJ J fun N a j=>by have:=p.out;omega
 exact⟨rfl,I⟩
theorem VO (ch seq er v:Int) (s:BB) (w:Bc) (B:Ey ch) (K:ch/8192=2) (z:0<=seq) (hs1:seq<=1000) (r:0<=er) (t:er<=100) (C:0<=v) (D:v<=1000000) (y:s.data.toList=Fg ch seq er v) (Q:s.size<=4000) :
  Calls Tryz.prog 106 #[.string s] w (Rt (.tuple #[.agg #[zI 3,zU ch,zI seq,zO,zO,zO,zO,zN,zI er,zI v,zE,zN],zO]) (Au w)):=by
 have A:s.data.toList=BL 3++(BL ch.toNat++(BL seq.toNat++(BL er.toNat++(BL v.toNat++[])))):=by rw[y];unfold Fg;simp only[Dc]
 have k:=fun d=>JO s d (by omega)
 rw[A] at k;have H:=Lh k;have J:Hid (∀ d e,BP d e (BL 3++(BL ch.toNat++(BL seq.toNat++(BL er.toNat++(BL v.toNat++[])))))->Calls Tryz.prog 140 #[zP e,.func (.func 125) #[zP e] #[]] d (Rt (.tuple #[.agg #[zI 3,zU ch,zI seq,zO,zO,zO,zO,zN,zI er,zI v,zE,zN],.bool true]) fun G=>BP G e []/\Am (fun F=>F=e) d G)):=Lh fun d e q=>(dE q B z hs1 r t C D)
 have I:Hid (∀ d,Calls Tryz.prog 141 #[.agg #[zI 3,zU ch,zI seq,zO,zO,zO,zO,zN,zI er,zI v,zE,zN]] d (Rt (.bool true) (Au d))):=Lh fun d=>VT ch seq er v d B K z hs1 r t C D
 have T:decide ((s.size:Int) > 4000)=false:=by rw[Ag];omega
 have U:decide ((4000:Int)<(s.size:Int))=false:=by rw[Ag];omega
 have b:Hid (AX (w.alloc (.cells #[zO,zU 0,zO,zO,zO,zO,zO,zN,zO,zO,zE,zN] 104)) w.heap.size 104 #[zO,zU 0,zO,zO,zO,zO,zO,zN,zO,zO,zE,zN]):=Lh (AX.new w _ _);have c:Hid (Au w (w.alloc (.cells #[zO,zU 0,zO,zO,zO,zO,zO,zN,zO,zO,zE,zN] 104))):=Lh ((Aa _ w).alloc _);clear k A y Q;go_in;go_upto_region 1 with(fail)
 obtain⟨V,n⟩:∃ o,o=w.heap.size:=⟨_,rfl⟩
 generalize w.alloc (.cells #[zO,zU 0,zO,zO,zO,zO,zO,zN,zO,zO,zE,zN] 104)=S at b c ⊢;rw[<- n] at b ⊢;have p:=Lh n;clear n;go_upto_region 4 with(go_at_call 124;refine(H.out _).mono ?_;have x:=b.out.lt;rintro j W ⟨rfl,i,a⟩;have f:=Lh i;have l:=Lh x;replace b:=Lh (b.out.Ab a id);replace c:=Lh (c.out.to a);clear i a x)
 obtain⟨e,u⟩:∃ e,e=S.heap.size:=⟨_,rfl⟩
 rw[<- u] at f l ⊢;clear u;go_upto_region 5 with(go_at_call 140;refine(J.out _ _ f.out).mono ?_;have O:=f.out.lt;rintro j h ⟨rfl,i,m⟩;replace b:=Lh (b.out.Ab m (by have:=l.out;omega));replace c:=Lh (c.out.AJ m fun R a q=>by have:=l.out;have:=p.out;omega);replace f:=Lh i;clear i m O)
 have a:Au h (h.alloc (.cells #[zI 3,zU ch,zI seq,zO,zO,zO,zO,zN,zI er,zI v,zE,zN] 104)):=(Aa _ h).alloc _;have g:Hid (AX (h.alloc (.cells #[zI 3,zU ch,zI seq,zO,zO,zO,zO,zN,zI er,zI v,zE,zN] 104)) h.heap.size 104 #[zI 3,zU ch,zI seq,zO,zO,zO,zO,zN,zI er,zI v,zE,zN]):=Lh (AX.new h _ _);replace b:=Lh (b.out.Ab a id);replace c:=Lh (c.out.to a);replace f:=Lh (f.out.AB a)
 skip
 generalize h.alloc (.cells #[zI 3,zU ch,zI seq,zO,zO,zO,zO,zN,zI er,zI v,zE,zN] 104)=X at b c f g a ⊢;obtain⟨am,E⟩:∃ o,o=h.heap.size:=⟨_,rfl⟩
 rw[<- E] at g ⊢;clear E a;go_wp2_with (first
  |(go_at_call 127;refine(Jb f.out).mono ?_;rintro j Y ⟨rfl,a⟩;replace b:=Lh (b.out.Ab a id);replace g:=Lh (g.out.Ab a id);replace c:=Lh (c.out.to a);clear a;obtain⟨ab,ac,ae,af,ag,ah,ai,aj,ak,al,x10,ad⟩:=LW g.out)
  |(refine AA rfl (.tmp 5) rfl rfl g.out Tryz.underlying104 rfl BM ?_)
  |(go_at_call 141;refine(I.out _).mono ?_;rintro j Z ⟨rfl,a⟩;replace b:=Lh (b.out.Ab a id);replace g:=Lh (g.out.Ab a id);replace c:=Lh (c.out.to a);clear a)
  |(refine Bo rfl (.tmp 2) (.tmp 33) rfl rfl (cs':=#[zI 3,zU ch,zI seq,zO,zO,zO,zO,zN,zI er,zI v,zE,zN]) rfl b.out BM rfl (by simp[Value.oneCell']) ?_;intro aa L N P;clear P))
 refine bodyPost_ret (v:=.tuple #[.agg #[zI 3,zU ch,zI seq,zO,zO,zO,zO,zN,zI er,zI v,zE,zN],zO]) (CB (p:=2) (q:=3) Tryz.results106 _ rfl rfl L Tryz.underlying104 rfl BM) rfl ?_;have M:=c.out.AJ N fun R a j=>by have:=p.out;omega
 exact⟨rfl,M⟩
theorem XQ (ch:Int) (L:List Ca) (s:BB) (w:Bc) (N:Ey ch) (U:ch/8192=2) (G:∀ c∈L,Cn c) (r:L.length<=8) (K:s.data.toList=Hm ch L) (u:s.size<=4000) :
  Calls Tryz.prog 106 #[.string s] w fun e w'=>∃ (A:Option Addr) (k:Nat) (Z:List Ed),e= .returned (.tuple #[.agg #[zI 1,zU ch,zO,zO,zO,zO,zO,zN,zO,zO,zE,.slice A L.length k],zO])/\Z.map (·.c)=L/\Dt w' A Z/\Gh w.heap.size A Z/\Au w w':=by
 have M:s.data.toList=BL 1++(BL ch.toNat++(Gq L++[])):=by rw[K];unfold Hm;simp only[Dc]
 have o:=fun f=>JO s f (by omega)
 rw[M] at o;have P:=Lh o;have R:Hid (∀ f g,BP f g (BL 1++(BL ch.toNat++(Gq L++[])))->Calls Tryz.prog 140 #[zP g,.func (.func 125) #[zP g] #[]] f fun e w'=>∃ (A:Option Addr) (k:Nat) (Z:List Ed),e= .returned (.tuple #[.agg #[zI 1,zU ch,zO,zO,zO,zO,zO,zN,zO,zO,zE,.slice A L.length k],.bool true])/\Z.map (·.c)=L/\Dt w' A Z/\Gh f.heap.size A Z/\BP w' g []/\Am (fun x=>x=g) f w'):=Lh fun f g D=>(jG D N G r)
 have Q:Hid (∀ f A k Z,Z.map (·.c)=L->Dt f A Z->Calls Tryz.prog 141 #[.agg #[zI 1,zU ch,zO,zO,zO,zO,zO,zN,zO,zO,zE,.slice A L.length k]] f (Rt (.bool true) (Au f))):=Lh fun f A k Z n Y=>by subst n;rw[Be] at r ⊢;exact XW ch A k Z f N U (fun z u=>G _ (Di u)) r Y
 have ac:decide ((s.size:Int) > 4000)=false:=by rw[Ag];omega
 have ad:decide ((4000:Int)<(s.size:Int))=false:=by rw[Ag];omega
 have b:Hid (AX (w.alloc (.cells #[zO,zU 0,zO,zO,zO,zO,zO,zN,zO,zO,zE,zN] 104)) w.heap.size 104 #[zO,zU 0,zO,zO,zO,zO,zO,zN,zO,zO,zE,zN]):=Lh (AX.new w _ _);have d:Hid (Au w (w.alloc (.cells #[zO,zU 0,zO,zO,zO,zO,zO,zN,zO,zO,zE,zN] 104))):=Lh ((Aa _ w).alloc _);clear o M K u;go_in;go_upto_region 1 with(fail)
 obtain⟨ae,t⟩:∃ y,y=w.heap.size:=⟨_,rfl⟩
 generalize w.alloc (.cells #[zO,zU 0,zO,zO,zO,zO,zO,zN,zO,zO,zE,zN] 104)=ab at b d ⊢;rw[<- t] at b ⊢;have B:=Lh t;clear t;go_upto_region 4 with(go_at_call 124;refine(P.out _).mono ?_;have J:=b.out.lt;rintro e af ⟨rfl,m,a⟩;have i:=Lh m;have p:=Lh J;replace b:=Lh (b.out.Ab a id);replace d:=Lh (d.out.to a);clear m a J)
 obtain⟨g,I⟩:∃ g,g=ab.heap.size:=⟨_,rfl⟩
 rw[<- I] at i p ⊢;clear I;go_upto_region 5 with(go_at_call 140;refine(R.out _ _ i.out).mono ?_;have X:=i.out.lt;rintro e l ⟨A,k,Z,rfl,n,E,F,m,q⟩;have C:=Lh n;have h:=Lh E;have T:=Lh d.out.size;have S:=Lh b.out.lt;have az:=Lh F;clear n E F;replace b:=Lh (b.out.Ab q (by have:=p.out;omega));replace d:=Lh (d.out.AJ q fun k a D=>by have:=p.out;have:=B.out;omega);replace i:=Lh m;clear m q X)
 have a:Au l (l.alloc (.cells #[zI 1,zU ch,zO,zO,zO,zO,zO,zN,zO,zO,zE,.slice A L.length k] 104)):=(Aa _ l).alloc _;have j:Hid (AX (l.alloc (.cells #[zI 1,zU ch,zO,zO,zO,zO,zO,zN,zO,zO,zE,.slice A L.length k] 104)) l.heap.size 104 #[zI 1,zU ch,zO,zO,zO,zO,zO,zN,zO,zO,zE,.slice A L.length k]):=Lh (AX.new l _ _);replace b:=Lh (b.out.Ab a id);replace d:=Lh (d.out.to a);replace i:=Lh (i.out.AB a);replace h:=Lh (h.out.AB a);generalize l.alloc (.cells #[zI 1,zU ch,zO,zO,zO,zO,zO,zN,zO,zO,zE,.slice A L.length k] 104)=ag at b d i j h a ⊢;obtain⟨ax,O⟩:∃ y,y=l.heap.size:=⟨_,rfl⟩
 rw[<- O] at j ⊢;clear O a;go_wp2_with (first
  |(go_at_call 127;refine(Jb i.out).mono ?_;rintro e ah ⟨rfl,a⟩;replace b:=Lh (b.out.Ab a id);replace j:=Lh (j.out.Ab a id);replace d:=Lh (d.out.to a);replace h:=Lh (h.out.AB a);clear a;obtain⟨ak,al,an,ao,ap,aq,ar,au,av,aw,x10,am⟩:=LW j.out)
  |(refine AA rfl (.tmp 5) rfl rfl j.out Tryz.underlying104 rfl BM ?_)
  |(go_at_call 141;refine(Q.out _ A k Z C.out h.out).mono ?_;rintro e ai ⟨rfl,a⟩;replace b:=Lh (b.out.Ab a id);replace j:=Lh (j.out.Ab a id);replace d:=Lh (d.out.to a);replace h:=Lh (h.out.AB a);clear a)
  |(refine Bo rfl (.tmp 2) (.tmp 33) rfl rfl (cs':=#[zI 1,zU ch,zO,zO,zO,zO,zO,zN,zO,zO,zE,.slice A L.length k]) rfl b.out BM rfl (by simp[Value.oneCell']) ?_;intro aj V H aa;clear aa))
 refine bodyPost_ret (v:=.tuple #[.agg #[zI 1,zU ch,zO,zO,zO,zO,zO,zN,zO,zO,zE,.slice A L.length k],zO]) (CB (p:=2) (q:=3) Tryz.results106 _ rfl rfl V Tryz.underlying104 rfl BM) rfl ?_;have W:=d.out.AJ H fun k a e=>by have:=B.out;omega
 exact⟨A,k,Z,rfl,C.out,h.out.Ab az.out H fun x hq e=>by have:=S.out;omega,az.out.mono T.out,W⟩
theorem VN (L:List Ca) (s:BB) (w:Bc) (G:∀ c∈L,Cn c) (r:L.length<=8) (K:s.data.toList=Gp L) (u:s.size<=4000) :
  Calls Tryz.prog 106 #[.string s] w fun e w'=>∃ (A:Option Addr) (k:Nat) (Z:List Ed),e= .returned (.tuple #[.agg #[zI 5,zU 0,zO,zO,zO,zO,zO,zN,zO,zO,zE,.slice A L.length k],zO])/\Z.map (·.c)=L/\Dt w' A Z/\Gh w.heap.size A Z/\Au w w':=by
 have M:s.data.toList=BL 5++(Gq L++[]):=by rw[K];unfold Gp;simp only[Dc]
 have o:=fun f=>JO s f (by omega)
 rw[M] at o;have O:=Lh o;have Q:Hid (∀ f g,BP f g (BL 5++(Gq L++[]))->Calls Tryz.prog 140 #[zP g,.func (.func 125) #[zP g] #[]] f fun e w'=>∃ (A:Option Addr) (k:Nat) (Z:List Ed),e= .returned (.tuple #[.agg #[zI 5,zU 0,zO,zO,zO,zO,zO,zN,zO,zO,zE,.slice A L.length k],.bool true])/\Z.map (·.c)=L/\Dt w' A Z/\Gh f.heap.size A Z/\BP w' g []/\Am (fun x=>x=g) f w'):=Lh fun f g D=>(dD D G r)
 have P:Hid (∀ f A k Z,Z.map (·.c)=L->Dt f A Z->Calls Tryz.prog 141 #[.agg #[zI 5,zU 0,zO,zO,zO,zO,zO,zN,zO,zO,zE,.slice A L.length k]] f (Rt (.bool true) (Au f))):=Lh fun f A k Z n W=>by subst n;rw[Be] at r ⊢;exact VS  A k Z f  (fun z u=>G _ (Di u)) r W
 have aa:decide ((s.size:Int) > 4000)=false:=by rw[Ag];omega
 have ab:decide ((4000:Int)<(s.size:Int))=false:=by rw[Ag];omega
 have b:Hid (AX (w.alloc (.cells #[zO,zU 0,zO,zO,zO,zO,zO,zN,zO,zO,zE,zN] 104)) w.heap.size 104 #[zO,zU 0,zO,zO,zO,zO,zO,zN,zO,zO,zE,zN]):=Lh (AX.new w _ _);have d:Hid (Au w (w.alloc (.cells #[zO,zU 0,zO,zO,zO,zO,zO,zN,zO,zO,zE,zN] 104))):=Lh ((Aa _ w).alloc _);clear o M K u;go_in;go_upto_region 1 with(fail)
 obtain⟨ac,t⟩:∃ y,y=w.heap.size:=⟨_,rfl⟩
 generalize w.alloc (.cells #[zO,zU 0,zO,zO,zO,zO,zO,zN,zO,zO,zE,zN] 104)=Y at b d ⊢;rw[<- t] at b ⊢;have B:=Lh t;clear t;go_upto_region 4 with(go_at_call 124;refine(O.out _).mono ?_;have J:=b.out.lt;rintro e ad ⟨rfl,m,a⟩;have i:=Lh m;have p:=Lh J;replace b:=Lh (b.out.Ab a id);replace d:=Lh (d.out.to a);clear m a J)
 obtain⟨g,I⟩:∃ g,g=Y.heap.size:=⟨_,rfl⟩
 rw[<- I] at i p ⊢;clear I;go_upto_region 5 with(go_at_call 140;refine(Q.out _ _ i.out).mono ?_;have V:=i.out.lt;rintro e l ⟨A,k,Z,rfl,n,E,F,m,q⟩;have C:=Lh n;have h:=Lh E;have S:=Lh d.out.size;have R:=Lh b.out.lt;have ax:=Lh F;clear n E F;replace b:=Lh (b.out.Ab q (by have:=p.out;omega));replace d:=Lh (d.out.AJ q fun k a D=>by have:=p.out;have:=B.out;omega);replace i:=Lh m;clear m q V)
 have a:Au l (l.alloc (.cells #[zI 5,zU 0,zO,zO,zO,zO,zO,zN,zO,zO,zE,.slice A L.length k] 104)):=(Aa _ l).alloc _;have j:Hid (AX (l.alloc (.cells #[zI 5,zU 0,zO,zO,zO,zO,zO,zN,zO,zO,zE,.slice A L.length k] 104)) l.heap.size 104 #[zI 5,zU 0,zO,zO,zO,zO,zO,zN,zO,zO,zE,.slice A L.length k]):=Lh (AX.new l _ _);replace b:=Lh (b.out.Ab a id);replace d:=Lh (d.out.to a);replace i:=Lh (i.out.AB a);replace h:=Lh (h.out.AB a);generalize l.alloc (.cells #[zI 5,zU 0,zO,zO,zO,zO,zO,zN,zO,zO,zE,.slice A L.length k] 104)=ae at b d i j h a ⊢;obtain⟨av,N⟩:∃ y,y=l.heap.size:=⟨_,rfl⟩
 rw[<- N] at j ⊢;clear N a;go_wp2_with (first
  |(go_at_call 127;refine(Jb i.out).mono ?_;rintro e af ⟨rfl,a⟩;replace b:=Lh (b.out.Ab a id);replace j:=Lh (j.out.Ab a id);replace d:=Lh (d.out.to a);replace h:=Lh (h.out.AB a);clear a;obtain⟨ai,aj,al,am,an,ao,ap,aq,ar,au,x10,ak⟩:=LW j.out)
  |(refine AA rfl (.tmp 5) rfl rfl j.out Tryz.underlying104 rfl BM ?_)
  |(go_at_call 141;refine(P.out _ A k Z C.out h.out).mono ?_;rintro e ag ⟨rfl,a⟩;replace b:=Lh (b.out.Ab a id);replace j:=Lh (j.out.Ab a id);replace d:=Lh (d.out.to a);replace h:=Lh (h.out.AB a);clear a)
  |(refine Bo rfl (.tmp 2) (.tmp 33) rfl rfl (cs':=#[zI 5,zU 0,zO,zO,zO,zO,zO,zN,zO,zO,zE,.slice A L.length k]) rfl b.out BM rfl (by simp[Value.oneCell']) ?_;intro ah T H X;clear X))
 refine bodyPost_ret (v:=.tuple #[.agg #[zI 5,zU 0,zO,zO,zO,zO,zO,zN,zO,zO,zE,.slice A L.length k],zO]) (CB (p:=2) (q:=3) Tryz.results106 _ rfl rfl T Tryz.underlying104 rfl BM) rfl ?_;have U:=d.out.AJ H fun k a e=>by have:=B.out;omega
 exact⟨A,k,Z,rfl,C.out,h.out.Ab ax.out H fun x hq e=>by have:=R.out;omega,ax.out.mono S.out,U⟩
end

section
variable {w w' W:Bc}
theorem Me (n:Int) (a : 0<=n) (b : n<=65535):IntKind.u16.wrap n=n:=by
 unfold IntKind.wrap;simp[IntKind.bits,IntKind.signed];omega
theorem Nc (i:Int) (w:Bc) (c:0<=i) (d:i<=2) :
  Calls Tryz.prog 90 #[zI i] w (Rt (zU (8193+i)) fun w'=>w=w'):=by
 have b:IntKind.i64.wrap (8193+i)=8193+i:=Dp _ (by omega) (by omega);have a:IntKind.u16.wrap (8193+i)=8193+i:=Me _ (by omega) (by omega);go_in;go_wp2;go_ret;exact⟨by first|rfl|rw[a],rfl⟩
theorem Ox (i b:Int) (w:Bc) (h:0<=i) (j:i<=2) (c:0<=b) (d:b<=40) :
  Calls Tryz.prog 89 #[zI i,zI b] w (Rt (zU (8292+50*i+b)) fun w'=>w=w'):=by
 have e:IntKind.i64.wrap (50*i)=50*i:=Dp _ (by omega) (by omega);have f:IntKind.i64.wrap (8292+50*i)=8292+50*i:=Dp _ (by omega) (by omega);have g:IntKind.i64.wrap (8292+50*i+b)=8292+50*i+b:=Dp _ (by omega) (by omega);have a:IntKind.u16.wrap (8292+50*i+b)=8292+50*i+b:=Me _ (by omega) (by omega);go_in;go_wp2;go_ret;exact⟨by first|rfl|rw[a],rfl⟩
theorem Qe (i b s:Int) (w:Bc) (k:0<=i) (l:i<=2) (c:0<=b) (d:b<=40) (m:0<=s) (n:s<=49) :
  Calls Tryz.prog 97 #[zI i,zI b,zI s] w (Rt (zU (16385+50*(41*i+b)+s)) fun w'=>w=w'):=by
 have e:IntKind.i64.wrap (41*i)=41*i:=Dp _ (by omega) (by omega);have f:IntKind.i64.wrap (41*i+b)=41*i+b:=Dp _ (by omega) (by omega);have g:IntKind.i64.wrap (50*(41*i+b))=50*(41*i+b):=Dp _ (by omega) (by omega);have h:IntKind.i64.wrap (16385+50*(41*i+b))=16385+50*(41*i+b):=Dp _ (by omega) (by omega);have j:IntKind.i64.wrap (16385+50*(41*i+b)+s)=16385+50*(41*i+b)+s:=Dp _ (by omega) (by omega);have a:IntKind.u16.wrap (16385+50*(41*i+b)+s)=16385+50*(41*i+b)+s:=Me _ (by omega) (by omega);go_in;go_wp2;go_ret;exact⟨by first|rfl|rw[a],rfl⟩
theorem NT (i:Int) (w:Bc) (k:0<=i) (l:i<=2) :
  Calls Tryz.prog 92 #[zI i] w (Rt (.string (C8 [24577+i,40961])) (Au w)):=by
 have h:IntKind.i64.wrap (24577+i)=24577+i:=Dp _ (by omega) (by omega);have j:IntKind.u16.wrap (24577+i)=24577+i:=Me _ (by omega) (by omega);have d:Hid (∀ (W:Bc) (a c:Nat),AX W a 25 #[zU (24577+i),zU 40961]->Calls Tryz.prog 91 #[zS a 0 2 c] W (Rt (.string (C8 [24577+i,40961])) (Au W))):=Lh fun W a c f=>KW [24577+i,40961] rfl rfl (by simp) (fun n hx=>by simp only[BI,CW,or_false] at hx;rcases hx with rfl|rfl<;>exact⟨by omega,by omega⟩) W f
 go_in;go_wp2_with (go_at_call 91;refine(d.out _ _ _ ?_).mono ?_;(exact AX.new _ _ _);rintro g m ⟨rfl,b⟩;have e:=Lh ((((T0 w).alloc _):Au w _).to b);clear b);go_ret;exact⟨rfl,e.out⟩
theorem Rq (i b s:Int) (w:Bc) (f:0<=i) (g:i<=2) (j:1<=b) (e:b<=40) (z:0<=s) (A:s<=39) (ch:Int) (h:ch=16385+50*(41*i+b)+s) :
  Calls Tryz.prog 180 #[zU ch] w (Rt (.tuple #[zU (8292+50*i+b),.bool true]) fun w'=>w=w'):=by
 have d:=Lh fun W=>Ox i b W f g (by omega) e
 obtain⟨a,ha⟩:∃ a,a=50*(41*i+b)+s:=⟨_,rfl⟩
 obtain⟨c,ht⟩:∃ c,c=41*i+b:=⟨_,rfl⟩
 have l:IntKind.i64.wrap ch=ch:=Dp _ (by omega) (by omega);have m:IntKind.i64.wrap (ch-16384)=ch-16384:=Dp _ (by omega) (by omega);have n:IntKind.i64.wrap (ch-16384-1)=a:=by rw[Dp _ (by omega) (by omega)];omega
 have o:a.tmod 50=s:=by rw[DY (by omega)];omega
 have p:a.tdiv 50=c:=by rw[Dk (by omega)];omega
 have q:c.tdiv 41=i:=by rw[Dk (by omega)];omega
 have r:c.tmod 41=b:=by rw[DY (by omega)];omega
 have C:IntKind.i64.wrap s=s:=Dp _ (by omega) (by omega);have D:IntKind.i64.wrap c=c:=Dp _ (by omega) (by omega);have E:IntKind.i64.wrap i=i:=Dp _ (by omega) (by omega);have F:IntKind.i64.wrap b=b:=Dp _ (by omega) (by omega);have t:decide (a<0)=false:=dF;have u:decide ((8191:Int)<=a)=false:=by rw[Ag];omega
 have v:decide ((40:Int)<=s)=false:=by rw[Ag];omega
 have x:decide ((3:Int)<=i)=false:=by rw[Ag];omega
 have y:decide (b<(1:Int))=false:=by rw[Ag];omega
 clear ha ht h;go_in;go_wp2_with (go_at_call 89;refine(d.out _).mono ?_;rintro k B ⟨rfl,rfl⟩);go_ret2;exact⟨rfl,rfl⟩
end

section
variable {w w' W:Bc}
def UA (i:Nat):Value:=.agg #[.string (C8 [24577+(i:Int),40961]),.string (C8 [8193+(i:Int)])]
theorem Yy (w:Bc) :
  Calls Tryz.prog 220 #[] w fun e w'=>∃ A k,e= .returned (.slice A 3 k)/\w'.ownsRow w.heap.size 381 2 (.slice A 3 k) 3 (BN UA [0,1,2])/\Au w w':=by
 obtain⟨O,H,K,L,M⟩:=info_parts K9;go_in;go_wp2;go_loopg [1,2,3] 3 fun gk P S N wr=>∃ a:Nat,a+gk=3/\N=zI a/\Hid (wr.ownsRow w.heap.size 381 2 P a (BN UA ((List.range 3).take a)))/\Hid (Au w wr)
 case atStart=>exact⟨0,by omega,rfl,Lh (World.ownsRow_nil _ _ _ _),Lh (Aa _ _)⟩
 case round =>
  obtain⟨a,U,rfl,g,q⟩:=hrel;by_cases V:a<3
  ·have Y:(a:Int)<3:=by omega
   have o:=Lh fun W=>NT (a:Int) W (by omega) (by omega)
   have ac:=Lh fun W=>Nc (a:Int) W (by omega) (by omega)
   have p:Hid (∀ (W:Bc) (j k:Nat),AX W j 25 #[zU (8193+(a:Int))]->Calls Tryz.prog 91 #[zS j 0 1 k] W (Rt (.string (C8 [8193+(a:Int)])) (Au W))):=Lh fun W j k F=>KW [8193+(a:Int)] rfl rfl (by simp) (fun x hx=>by rw[Ai.1 hx];exact⟨by omega,by omega⟩) W F
   have E:Hid ((List.range 3).take (a+1)=(List.range 3).take a++[a]):=Lh (by rw[AP (by simp;omega)];simp);obtain⟨f,h,rfl⟩:=BD g.out;have i:Hid (UA a= .agg #[.string (C8 [24577+(a:Int),40961]),.string (C8 [8193+(a:Int)])]):=Lh rfl;generalize C8 [24577+(a:Int),40961]=m at o i;generalize C8 [8193+(a:Int)]=n at p i;go_wp2_with (first
    |(go_at_call 92;refine(o.out _).mono ?_;rintro e Z ⟨rfl,b⟩;have B:=Lh (Aj g.out b fun _ _ c=>c);have y:=Lh (q.out.to b);clear b)
    |(go_at_call 90;refine(ac.out _).mono ?_;rintro e aa ⟨rfl,rfl⟩)
    |(go_at_call 91;refine(p.out _ _ _ ?_).mono ?_;(exact AX.new _ _ _);rintro e d ⟨rfl,b⟩;replace b:=((T0 _).alloc _).to b;have C:=Lh (Aj B.out b fun _ _ c=>c);have r:=Lh (y.out.to b);have l:=C.out;have X:=r.out.size;clear b)
    |(at_builtin;go_must (refine wpList_append_lies _ rfl (.tmp 6) (.tmp 14) 334 rfl w.heap.size 381 O _ 2 32 Tryz.underlying334 H K L M rfl (by omega) (.slice f a h) a _ rfl (l.alloc _) (zA d.heap.size 0) 1 1 [.string m,.string n] rfl rfl (World.news_of_block (cs:=#[.string m,.string n]) (t:=381) (fr:=(0,0)) (heap_alloc_new d _)) (by simp[Value.oneCell']) (by omega) (by unfold maxLen;omega) (by omega) (by simp;omega) (d.heap.size+1) (by simp) ?_);intro T R Q s v G J))
   have u:Am (fun k=>(Value.slice f a h).ownBlock=some k) d Q:=((Aa _ d).alloc _).grown v fun k c _=>c
   have D:=Lh s;have z:=Lh (r.out.AJ u fun k b c=>Bv (BQ l c) (by omega));clear u s v G J l;go_roundg (gk-1)
   case measure=>omega
   case rel =>
    refine⟨a+1,by omega,by go_num,Lh ?_,z⟩;rw[E.out,Ez,show BN UA [a]=[.string m,.string n] from by simp[BN,i.out,Value.cells]];exact D.out
  ·have I:a=3:=by omega
   subst I;obtain⟨f,h,rfl⟩:=BD g.out;go_wp2;go_ret;exact⟨f,h,rfl,g.out,q.out⟩
end

section
variable {w w' W:Bc}
theorem Ht:(Tryz.prog.info? 107).map (·.size)=some 3:=by kernel_rfl
theorem UC (b c f g h j k l m n d e:Value) (nb:Nat) (i t er:Int) (s:BB) (w:Bc) (z:Cl w nb 3 (zI i)) (y:nb<w.heap.size)
  (u:∀ W,Au w W->Calls Tryz.prog 63 #[.agg #[b,c,f,g,h,j,k,l,m,n,d,e]] W (Rt (.tuple #[.string s,zI er]) (Au W))) :
  Calls Tryz.prog 99 #[zP nb,zI t,.agg #[b,c,f,g,h,j,k,l,m,n,d,e]] w (Rt (.agg #[zI i,zI t,.string s]) (Au w)):=by
 have u:=Lh u;have a:Hid (AX (w.alloc (.cells #[b,c,f,g,h,j,k,l,m,n,d,e] 104)) w.heap.size 104 #[b,c,f,g,h,j,k,l,m,n,d,e]):=Lh (AX.new w _ _);have q:Hid (AX ((w.alloc (.cells #[b,c,f,g,h,j,k,l,m,n,d,e] 104)).alloc (.cells #[zO,zO,zE] 107)) (w.heap.size+1) 107 #[zO,zO,zE]):=Lh (AX.at_ _ _ (by simp));replace a:=Lh (a.out.alloc (.cells #[zO,zO,zE] 107));have o:Hid (Au w ((w.alloc (.cells #[b,c,f,g,h,j,k,l,m,n,d,e] 104)).alloc (.cells #[zO,zO,zE] 107))):=Lh (((Aa _ w).alloc _).alloc _);have B:=Lh z;have A:=Lh y;clear z y;go_in;go_upto_region 1 with(fail)
 obtain⟨M,x⟩:∃ H,H=w.heap.size:=⟨_,rfl⟩
 have C:=Lh x;generalize (w.alloc (.cells #[b,c,f,g,h,j,k,l,m,n,d,e] 104)).alloc (.cells #[zO,zO,zE] 107)=J at a q o ⊢;rw[<- x] at a q ⊢;clear x;go_upto_region 2 with(first
  |(refine AA rfl (.tmp 5) rfl rfl a.out Tryz.underlying104 rfl BM ?_)
  |(go_at_call 63;refine(u.out _ o.out).mono ?_;rintro D K ⟨rfl,r⟩;replace a:=Lh (a.out.Ab r id);replace q:=Lh (q.out.Ab r id);replace o:=Lh (o.out.to r);clear r))
 have N:=(o.out.cell (p:=zA nb 3) A.out id).trans B.out;go_wp2_with (first
  |(refine Bo rfl (.tmp 6) (.tmp 21) rfl rfl (cs':=#[zI i,zI t,.string s]) rfl q.out Ht rfl (by simp[Value.oneCell']) ?_;intro L E F G;clear G))
 refine bodyPost_ret (v:=.agg #[zI i,zI t,.string s]) (Gz (p:=6) Tryz.results99 _ rfl E Tryz.underlying107 rfl Ht) rfl ?_;exact⟨rfl,o.out.AJ F fun I r D=>by have:=C.out;omega⟩
end

section
variable {w w' W:Bc}
theorem VX (F:Nat->Prop) (R:Bc->Bc->Prop) (m n bq t u x y z A B o q:Value) (nb Z:Nat) (i L ch G seq:Int) (s H:BB) (w:Bc) (ao:Cl w nb 3 (zI i)) (am:Cl w nb 8 (zP Z)) (al:nb<w.heap.size) (hF:∀ k,F k->k<w.heap.size/\k≠nb)
  (T:∀ W,Calls Tryz.prog 66 #[.agg #[m,n,bq,t,u,x,y,z,A,B,o,q]] W (Rt (.tuple #[.agg #[zU ch,zI G,zI seq,.string H],zO]) (Au W)))
  (U:∀ W,Au w W->Calls Tryz.prog 67 #[zP Z,.agg #[zU ch,zI G,zI seq,.string H],zI i] W fun e w'=>(∃ c,e= .returned (zI c))/\R W w'/\Am F W w')
  (ah:∀ W,Calls Tryz.prog 63 #[.agg #[m,n,bq,t,u,x,y,z,A,B,o,q]] W (Rt (.tuple #[.string s,zO]) (Au W))) :
  Calls Tryz.prog 101 #[zP nb,zI L,.agg #[m,n,bq,t,u,x,y,z,A,B,o,q]] w fun e w'=>∃ h V,e= .returned (.agg #[zI i,zI L,.string s])/\Au w h/\w.heap.size+1<h.heap.size/\R h V/\Am F h V/\Am (fun k=>k=w.heap.size+1) V w':=by
 have T:=Lh T;have U:=Lh U;have au:=Lh fun W (bd:Cl W nb 3 (zI i)) (be:nb<W.heap.size)=>UC m n bq t u x y z A B o q nb i L 0 s W bd be fun W _=>ah W
 have f:Hid (AX (w.alloc (.cells #[m,n,bq,t,u,x,y,z,A,B,o,q] 104)) w.heap.size 104 #[m,n,bq,t,u,x,y,z,A,B,o,q]):=Lh (AX.new w _ _);have d:Hid (AX ((w.alloc (.cells #[m,n,bq,t,u,x,y,z,A,B,o,q] 104)).alloc (.cells #[zO,zO,zE] 107)) (w.heap.size+1) 107 #[zO,zO,zE]):=Lh (AX.at_ _ _ (by simp));replace f:=Lh (f.out.alloc (.cells #[zO,zO,zE] 107));have a:Hid (Au w ((w.alloc (.cells #[m,n,bq,t,u,x,y,z,A,B,o,q] 104)).alloc (.cells #[zO,zO,zE] 107))):=Lh (((Aa _ w).alloc _).alloc _);have aj:=Lh ao;have ay:=Lh am;have I:=Lh al;have M:=Lh hF;clear ao al am hF ah;go_in;go_upto_region 1 with(fail)
 obtain⟨bp,Y⟩:∃ r,r=w.heap.size:=⟨_,rfl⟩
 have O:=Lh Y;generalize (w.alloc (.cells #[m,n,bq,t,u,x,y,z,A,B,o,q] 104)).alloc (.cells #[zO,zO,zE] 107)=bm at f d a ⊢;rw[<- Y] at f d ⊢;clear Y;go_upto_region 2 with(first
  |(refine AA rfl (.tmp 5) rfl rfl f.out Tryz.underlying104 rfl BM ?_)
  |(go_at_call 66;refine(T.out _).mono ?_;rintro e D ⟨rfl,b⟩;replace f:=Lh (f.out.Ab b id);replace d:=Lh (d.out.Ab b id);replace a:=Lh (a.out.to b);clear b))
 have b:Au D (D.alloc (.cells #[zU ch,zI G,zI seq,.string H] 159)):=(Aa _ D).alloc _;have l:Hid (AX (D.alloc (.cells #[zU ch,zI G,zI seq,.string H] 159)) D.heap.size 159 #[zU ch,zI G,zI seq,.string H]):=Lh (AX.new D _ _);have N:Hid (w.heap.size<=D.heap.size):=Lh a.out.size;replace f:=Lh (f.out.Ab b id);replace d:=Lh (d.out.Ab b id);replace a:=Lh (a.out.to b);clear b;obtain⟨g,an⟩:∃ r,r=D.heap.size:=⟨_,rfl⟩
 generalize D.alloc (.cells #[zU ch,zI G,zI seq,.string H] 159)=E at f d a l ⊢;rw[<- an] at l N ⊢;clear an;go_upto_region 3 with(fail)
 have af:=(a.out.cell (p:=zA nb 3) I.out id).trans aj.out;have ag:=(a.out.cell (p:=zA nb 8) I.out id).trans ay.out;have aa:Cl E g 0 (zU ch):=l.out.cell 0;have ab:Cl E g 1 (zI G):=l.out.cell 1;have ac:Cl E g 2 (zI seq):=l.out.cell 2;have ad:Cl E g 3 (.string H):=l.out.cell 3;go_cut [] fun W=>∃ h,Au w h/\w.heap.size+1<h.heap.size/\R h W/\Am F h W/\Au E h
 case first =>
  go_region_held3 (fun W=>Cl W nb 3 (zI i)/\Cl W nb 8 (zP Z)/\Cl W g 0 (zU ch)/\Cl W g 1 (zI G)/\Cl W g 2 (zI seq)/\Cl W g 3 (.string H))
   (first
    |exact⟨af,ag,aa,ab,ac,ad⟩
    |exact⟨(K.cell (p:=zA nb 3) aq ap).trans af,(K.cell (p:=zA nb 8) aq ap).trans ag,(K.cell (p:=zA g 0) S Q).trans aa,(K.cell (p:=zA g 1) S Q).trans ab,(K.cell (p:=zA g 2) S Q).trans ac,(K.cell (p:=zA g 3) S Q).trans ad⟩)
   (first
    |(go_at_call 67;refine(U.out _ (by first|exact a.out|exact a.out.drew)).mono ?_;rintro e bj ⟨⟨c,rfl⟩,P,j⟩;have K:Am F E bj:=(by first|exact j|exact((Aa F E).drew).AJ j fun _ _ C=>C);have ap:¬F nb:=(fun C=>(M.out _ C).2 rfl);have Q:¬F g:=(fun C=>by have:=(M.out _ C).1;have:=N.out;omega);have aq:nb<E.heap.size:=Bj I.out a.out.size;have S:=l.out.lt))
  go_wp2;go_meet;exact⟨_,by first|exact a.out|exact a.out.drew,(by have:=N.out;have:=l.out.lt;have:=d.out.lt;have:=O.out;first|omega|(show _<E.heap.size;omega)),P,j,by first|exact Aa _ _|exact(Aa _ _).drew⟩
 case rest =>
  obtain⟨h,J,ak,P,j,X⟩:=hcut;have bc:=Lh ak;clear ak;have ba:=Lh P;have bb:=Lh j;have aw:=Lh J;have ai:Hid (∀ k,w.heap.size<=k->¬F k):=Lh fun k b bh=>by have:=(M.out k bh).1;omega
  replace f:=Lh ((f.out.Ab X id).Ab j (ai.out _ (by have:=O.out;omega)));replace d:=Lh ((d.out.Ab X id).Ab j (ai.out _ (by have:=O.out;omega)));have ar:Cl wc nb 3 (zI i):=((j.cell (p:=zA nb 3) (Bj I.out J.size) fun C=>(M.out _ C).2 rfl).trans (J.cell (p:=zA nb 3) I.out id)).trans aj.out;have az:=Lh ar;have av:Hid (nb<wc.heap.size):=Lh (Bj I.out (AV J.size j.size));have bl:Hid (w.heap.size<=wc.heap.size):=Lh (AV J.size j.size);clear af ag aa ab ac ad P j J X ar l N a;have bk:Hid (Au wc wc):=Lh (Aa _ _);go_wp2_with (first
   |(refine AA rfl (.tmp 5) rfl rfl f.out Tryz.underlying104 rfl BM ?_)
   |(go_at_call 99;refine(au.out _ az.out av.out).mono ?_;rintro e bn ⟨rfl,b⟩;have ax:=Lh b;replace d:=Lh (d.out.Ab b id);clear b)
   |(refine Bo rfl (.tmp 6) (.tmp 31) rfl rfl (cs':=#[zI i,zI L,.string s]) rfl d.out Ht rfl (by simp[Value.oneCell']) ?_;intro bo bf bg bi;clear bi))
  refine bodyPost_ret (v:=.agg #[zI i,zI L,.string s]) (Gz (p:=6) Tryz.results101 _ rfl bf Tryz.underlying107 rfl Ht) rfl ?_;exact⟨h,wc,rfl,aw.out,bc.out,ba.out,bb.out,((Aa (fun k=>k=w.heap.size+1) wc).AJ ax.out fun _ _ C=>C.elim).AJ bg fun k b e=>by have:=O.out;show k=w.heap.size+1;omega⟩
end

section
variable {w w' W:Bc}
theorem Jn (nb:Nat) (i s:Int) (w:Bc) (g:Cl w nb 3 (zI s)) (c:0<=i) (d:i<=2) (a:i≠s) :
  Calls Tryz.prog 96 #[.pointer (some (zA nb 3)),zI i] w (Rt (.bool true) fun w'=>w=w'):=by
 have e:decide ((0:Int)<=i)=true:=by rw[decide_eq_true_iff];omega
 have f:decide (i<3)=true:=by rw[decide_eq_true_iff];omega
 have b:(i != s)=true:=by rw[bne_iff_ne];exact a
 clear c d a;go_in;go_wp2;go_ret;exact⟨by rw[<- b];rfl,rfl⟩
def aU (l:Int × Int × Int):Value:=.agg #[zU l.1,zI l.2.1,zI l.2.2]
def IL:List (Int × Int × Int)->Int->Int
 |[],_=>-1
 |l::r,ch=>if l.1=ch then l.2.1 else IL r ch
theorem XR (nb:Nat) (A:Option Addr) (k:Nat) (L:List (Int × Int × Int)) (ch:Int) (w:Bc) (D:Cl w nb 11 (.slice A L.length k)) (C:L.length<=1000) (q:Ay aU w w.heap.size 3 A L) :
  Calls Tryz.prog 102 #[.pointer (some (zA nb 3)),zU ch] w (Rt (zI (IL L ch)) (Au w)):=by
 have r:=Lh q;clear q;go_in;go_wp2;go_loopg [6,12] L.length fun gk F t wr=>∃ a:Nat,a+gk=L.length/\t=zI a/\Hid (IL L ch=IL (L.drop a) ch)/\Hid (Au w wr)
 case atStart=>exact⟨0,by omega,rfl,Lh rfl,Lh (Aa _ _)⟩
 case round =>
  obtain⟨a,B,rfl,m,g⟩:=hrel;by_cases o:a<L.length
  ·obtain⟨c,e,rfl,i,h⟩:=r.out a o;obtain⟨b,j⟩:∃ b,b=L[a]:=⟨_,rfl⟩
   rw[<- j] at h;have n:Hid (IL L ch=IL (b::L.drop (a+1)) ch):=Lh (by rw[m.out,Fa o,j]);have E:(0:Int)<=(a:Int):=by omega
   have u:(a:Int)<(L.length:Int):=by omega
   have x:Cl wr c (e+a*3) (zU b.1):=(g.out.cell (p:=zA c (e+a*3)) i id).trans (h 0 (by omega));have y:Cl wr c (e+a*3+1) (zI b.2.1):=(g.out.cell (p:=zA c (e+a*3+1)) i id).trans (h 1 (by omega));have z:Cl wr c (e+a*3+2) (zI b.2.2):=(g.out.cell (p:=zA c (e+a*3+2)) i id).trans (h 2 (by omega));have l:=Lh (g.out.alloc (.cells #[zU b.1,zI b.2.1,zI b.2.2] 200));clear h j;by_cases d:b.1=ch
   ·have v:(b.1==ch)=true:=bT d;have f:Hid (IL L ch=b.2.1):=Lh (by rw[n.out];unfold IL;rw[AQ d]);clear d;go_wp2;go_ret;exact⟨by rw[f.out];rfl,l.out⟩
   ·have v:(b.1==ch)=false:=bF d;have f:Hid (IL L ch=IL (L.drop (a+1)) ch):=Lh (by rw[n.out];conv=>lhs;unfold IL;rw[Bg d]);clear d;go_wp2;go_roundg (gk-1)
    case measure=>omega
    case rel=>exact⟨a+1,by omega,by go_num,f,l⟩
  ·have s:a=L.length:=by omega
   have u:¬(a:Int)<(L.length:Int):=by omega
   have f:Hid (IL L ch = -1):=Lh (by rw[m.out,s,List.drop_length];rfl);go_wp2;go_ret;exact⟨by rw[f.out];rfl,g.out⟩
end

section
variable {w w' W:Bc}
theorem Qs (c:Ca) (g:Addr) (k:Nat) (w:Bc) (M:c.Bl.length<=100) (A:Ay Value.string w w.heap.size 1 (some g) c.Bl) :
  Calls Tryz.prog 170 #[.agg #[zI c.kind,zU c.Aq,.string c.Ad,.slice (some g) c.Bl.length k,zI c.BX,zI c.till,zI c.AO]] w fun e w'=>∃ b d,e= .returned (.agg #[zI c.kind,zU c.Aq,.string c.Ad,.slice b c.Bl.length d,zI c.BX,zI c.till,zI c.AO])/\w'.ownsRow w.heap.size 27 1 (.slice b c.Bl.length d) c.Bl.length (c.Bl.map Value.string)/\Au w w':=by
 have a:Hid (AX (w.alloc (.cells #[zI c.kind,zU c.Aq,.string c.Ad,.slice (some g) c.Bl.length k,zI c.BX,zI c.till,zI c.AO] 31)) w.heap.size 31 #[zI c.kind,zU c.Aq,.string c.Ad,.slice (some g) c.Bl.length k,zI c.BX,zI c.till,zI c.AO]):=Lh (AX.new w _ _);have f:Hid (AX ((w.alloc (.cells #[zI c.kind,zU c.Aq,.string c.Ad,.slice (some g) c.Bl.length k,zI c.BX,zI c.till,zI c.AO] 31)).alloc (.cells #[zO,zU 0,zE,zN,zO,zO,zO] 31)) (w.heap.size+1) 31 #[zO,zU 0,zE,zN,zO,zO,zO]):=Lh (AX.at_ _ _ (by simp));replace a:=Lh (a.out.alloc (.cells #[zO,zU 0,zE,zN,zO,zO,zO] 31));have q:Au w ((w.alloc (.cells #[zI c.kind,zU c.Aq,.string c.Ad,.slice (some g) c.Bl.length k,zI c.BX,zI c.till,zI c.AO] 31)).alloc (.cells #[zO,zU 0,zE,zN,zO,zO,zO] 31)):=((Aa _ w).alloc _).alloc _;have t:=Lh (JG g k c.Bl _ (by omega) (A.AB q));have h:=Lh q;clear q A;go_in;go_upto_region 1 with(fail)
 obtain⟨i,s⟩:∃ I,I=w.heap.size:=⟨_,rfl⟩
 have x:=Lh s;generalize (w.alloc (.cells #[zI c.kind,zU c.Aq,.string c.Ad,.slice (some g) c.Bl.length k,zI c.BX,zI c.till,zI c.AO] 31)).alloc (.cells #[zO,zU 0,zE,zN,zO,zO,zO] 31)=J at a f h t ⊢;rw[<- s] at a f ⊢;clear s;have K:Cl J i 3 (.slice (some g) c.Bl.length k):=a.out.cell 3;go_upto_region 2 with(go_at_call 130;refine t.out.mono ?_;have C:=Lh h.out.size;have D:=Lh a.out.lt;have B:=Lh f.out.lt;rintro e n ⟨b,d,rfl,y,o⟩;have j:=Lh y;replace a:=Lh (a.out.Ab o id);replace f:=Lh (f.out.Ab o id);replace h:=Lh (h.out.to o);clear y o;have L:=a.out.cell 3;have E:=a.out.frozen 3)
 have l:Am (fun m=>m=i) n (n.setCell (zA i 3) (.slice b c.Bl.length d)):=(Aa (fun m=>m=i) n).setCell (p:=zA i 3) (fun _=>rfl) _;have u:Hid (AX (n.setCell (zA i 3) (.slice b c.Bl.length d)) i 31 #[zI c.kind,zU c.Aq,.string c.Ad,.slice b c.Bl.length d,zI c.BX,zI c.till,zI c.AO]):=Lh (a.out.Dw 3 (.slice b c.Bl.length d));replace f:=Lh (f.out.Ab l (by omega));replace h:=Lh (h.out.AJ l fun m hq e=>by have:=x.out;omega);replace j:=Lh (Aj j.out l fun F r e=>by have:=BQ j.out r;have:=D.out;omega);clear a K L E;generalize n.setCell (zA i 3) (.slice b c.Bl.length d)=N at u f h j l ⊢;clear l;go_wp2_with (first
  |(refine AA rfl (.tmp 1) rfl rfl u.out Tryz.underlying31 rfl Cg ?_)
  |(refine Bo rfl (.tmp 2) (.tmp 7) rfl rfl (cs':=#[zI c.kind,zU c.Aq,.string c.Ad,.slice b c.Bl.length d,zI c.BX,zI c.till,zI c.AO]) rfl f.out Cg rfl (by simp[Value.oneCell']) ?_;intro O G z H;clear H))
 refine bodyPost_ret (v:=.agg #[zI c.kind,zU c.Aq,.string c.Ad,.slice b c.Bl.length d,zI c.BX,zI c.till,zI c.AO]) (Gz (p:=2) Tryz.results170 _ rfl G Tryz.underlying31 rfl Cg) rfl ?_;exact⟨b,d,rfl,Du (Aj j.out z fun F r e=>by have:=BQ j.out r;have:=B.out;omega) C.out,h.out.AJ z fun m hq e=>by have:=x.out;omega⟩
end

section
variable {w w' W:Bc}
def IV (w:Bc) (m:Int):Bc:=(((w.alloc (.map #[] 0)).alloc (.map #[] 0)).alloc (.map #[] 0)).alloc (.cells #[zI m,zO,zO,.map (some w.heap.size),.map (some (w.heap.size+1)),.map (some (w.heap.size+2))] 239)
theorem Ww (w:Bc) (m:Int):AX (IV w m) (w.heap.size+3) 239 #[zI m,zO,zO,.map (some w.heap.size),.map (some (w.heap.size+1)),.map (some (w.heap.size+2))]:=AX.at_ _ _ (by simp)
theorem LH (w:Bc) (m:Int):Au w (IV w m):=((((Aa _ w).alloc _).alloc _).alloc _).alloc _
theorem UI (w:Bc) (m:Int):(IV w m).heap[w.heap.size]?= some (.map #[] 0)/\(IV w m).heap[w.heap.size+1]?= some (.map #[] 0)/\(IV w m).heap[w.heap.size+2]?= some (.map #[] 0):=by
 have a:(w.alloc (.map #[] 0)).heap.size=w.heap.size+1:=by simp
 have b:((w.alloc (.map #[] 0)).alloc (.map #[] 0)).heap.size=w.heap.size+2:=by simp
 have c:(((w.alloc (.map #[] 0)).alloc (.map #[] 0)).alloc (.map #[] 0)).heap.size=w.heap.size+3:=by simp
 refine⟨?_,?_,?_⟩
 ·exact(Below.heap_alloc _ _ _ (by omega)).trans ((Below.heap_alloc _ _ _ (by omega)).trans ((Below.heap_alloc _ _ _ (by omega)).trans (heap_alloc_new w _)))
 ·have:=heap_alloc_new (w.alloc (.map #[] 0)) (.map #[] 0);rw[a] at this;exact(Below.heap_alloc _ _ _ (by omega)).trans ((Below.heap_alloc _ _ _ (by omega)).trans this)
 ·have:=heap_alloc_new ((w.alloc (.map #[] 0)).alloc (.map #[] 0)) (.map #[] 0);rw[b] at this;exact(Below.heap_alloc _ _ _ (by omega)).trans this
theorem dO (m:Int) (w:Bc) (a:1<=m) (b:m<=200) :
  Calls Tryz.prog 86 #[zI m] w (Rt (.pointer (some (zA (w.heap.size+3) 0))) fun w'=>w'=IV w m):=by
 have c:decide (m<1)=false:=dF;have d:decide (200<m)=false:=dF;have e:=@run_makeMap Tryz.prog;clear a b;go_in;go_wp2;go_ret;exact⟨rfl,rfl⟩
end

section
variable {w w' W:Bc}
theorem eX (i:Int) (w:Bc) (a:0<=i) (b:i<=2):Calls Tryz.prog 37 #[zI i] w (Rt (.bool true) fun w'=>w=w'):=by
 have c:decide ((0:Int)<=i)=true:=by rw[decide_eq_true_iff];omega
 have d:decide (i<3)=true:=by rw[decide_eq_true_iff];omega
 clear a b;go_in;go_wp2;go_ret;exact⟨rfl,rfl⟩
theorem Oa (b a nb:Nat) (w:Bc) (c:Cl w b a (zP nb)):Calls Tryz.prog 26 #[.pointer (some (zA b a))] w (Rt (.bool true) fun w'=>w=w'):=by
 go_in;go_wp2;go_ret;exact⟨rfl,rfl⟩
theorem Uv (b a:Nat) (w:Bc) (c:Cl w b a (.pointer none)):Calls Tryz.prog 26 #[.pointer (some (zA b a))] w (Rt (.bool false) fun w'=>w=w'):=by
 go_in;go_wp2;go_ret;exact⟨rfl,rfl⟩
theorem N9 (a j nb:Nat) (w:Bc) (g:j<=2) (b:Cl w a (j*3) (zP nb)):Calls Tryz.prog 10 #[zP a,zI j] w (Rt (.bool true) fun w'=>w=w'):=by
 have c:=Lh fun W=>eX (j:Int) W (by omega) (by omega)
 have d:=Lh (Oa a (j*3) nb w b);have h:(0:Int)<=(j:Int):=by omega
 have i:(j:Int)<3:=by omega
 clear b;go_in;go_wp2_with (first
  |(go_at_call 37;refine(c.out _).mono ?_;rintro e f ⟨rfl,rfl⟩)
  |(go_at_call 26;refine d.out.mono ?_;rintro e f ⟨rfl,rfl⟩))
 go_ret;exact⟨rfl,rfl⟩
theorem Jf (a j nb:Nat) (w:Bc) (d:j<=2) (c:Cl w a (j*3) (zP nb)):Calls Tryz.prog 12 #[zP a,zI j] w (Rt (zP nb) fun w'=>w=w'):=by
 have b:=Lh (N9 a j nb w d c);have f:(0:Int)<=(j:Int):=by omega
 have g:(j:Int)<3:=by omega
 go_in;go_wp2_with (go_at_call 10;refine b.out.mono ?_;rintro e h ⟨rfl,rfl⟩);go_ret;exact⟨rfl,rfl⟩
theorem YP (b a:Nat) (w:Bc) (c:Cl w b 9 (zP a)):Calls Tryz.prog 15 #[zP b] w (Rt (zP a) fun w'=>w=w'):=by
 go_in;go_wp2;go_ret;exact⟨rfl,rfl⟩
end

section
end

section
variable {P:Program} {md:Region.Mode} {ops:Array Oper} {Q:Exit->Act->Bc->Prop} {S:Bc->Prop} {z n:Nat} {l:Array Bool} {a:Act} {w:Bc}
theorem zt (i d:Nat) {v:Value} (j:∃ b,ops[i]?= some b/\b.dst=some d/\Region.wanted b (yielded ops a.tmps)=true/\∀ w,S w->(execOp a.eval b).run P w= .ok (.value v) w)
  (g:S w) (e:F9 P md ops Q S z n (l.setIfInBounds i true) (a.put (some d) v) w)
  (o:Region.noSelect ops=true:=by kernel_rfl) (h:Region.free md ops l i=true:=by kernel_rfl) (m:(Region.ready md ops l).contains i=true:=by kernel_rfl) (p:Q4 md ops z i=true:=by kernel_rfl) (q:l.getD z false=false:=by kernel_rfl) (k:(i==z)=false:=by kernel_rfl)
  (f:∀ c a w,Q (.panic c) (a.put (some d) v) w->Q (.panic c) a w:=by exact fun _ _ _ e=>e):F9 P md ops Q S z (n+1) l a w:=MN i d j o h m p q k f g e
theorem ht (i d:Nat) {v:Value} (j:∃ b,ops[i]?= some b/\b.dst=some d/\Region.wanted b (yielded ops a.tmps)=true/\∀ w,S w->(execOp a.eval b).run P w= .ok (.value v) w)
  (g:S w) (e:wpAnyH P md ops Q S n (l.setIfInBounds i true) (a.put (some d) v) w)
  (m:Region.noSelect ops=true:=by kernel_rfl) (h:Region.free md ops l i=true:=by kernel_rfl) (k:(Region.ready md ops l).contains i=true:=by kernel_rfl)
  (f:∀ c a w,Q (.panic c) (a.put (some d) v) w->Q (.panic c) a w:=by exact fun _ _ _ e=>e):wpAnyH P md ops Q S (n+1) l a w:=QZ i d j m h k f g e
theorem hsk (i d:Nat) (j:∃ e,ops[i]?= some e/\e.dst=some d/\Region.wanted e (yielded ops a.tmps)=false)
  (g:S w) (b:wpAnyH P md ops Q S n (l.setIfInBounds i true) (a.put (some d) undef) w)
  (m:Region.noSelect ops=true:=by kernel_rfl) (h:Region.free md ops l i=true:=by kernel_rfl) (k:(Region.ready md ops l).contains i=true:=by kernel_rfl)
  (f:∀ c a w,Q (.panic c) (a.put (some d) undef) w->Q (.panic c) a w:=by exact fun _ _ _ b=>b):wpAnyH P md ops Q S (n+1) l a w:=QY i d j m h k f g b
theorem zs (i:Nat) {b:Oper} (e:ops[i]?= some b)
  (d:∀ c:Act->Bc->Prop,Shut (∀ a w,S w->(S w->F9 P md ops Q S z n (l.setIfInBounds i true) a w)->c a w)->if Region.wanted b (yielded ops a.tmps)=true then Oper.wp P b a w c Q else c (a.put b.dst undef) w) (f:Region.ready md ops l=[i]:=by kernel_rfl):F9 P md ops Q S z (n+1) l a w:=I7 i f e d
end

end Go.Proofs.YtcjcndnjpedniaaGreat
