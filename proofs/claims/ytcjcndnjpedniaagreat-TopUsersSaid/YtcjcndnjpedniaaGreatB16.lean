/- A part of the proof of TopUsers. -/
import Derived.Test.YtcjcndnjpedniaaGreatB15
namespace Go.Proofs.YtcjcndnjpedniaaGreat
set_option linter.all false
set_option maxRecDepth 100000
set_option maxHeartbeats 8000000
open Go.RowKit
section
variable {w w' W w0:Bc} {base o:Nat}
theorem K8:(Tryz.prog.info? 159).map (·.size)=some 4:=by kernel_rfl
theorem eU {c:List UInt8} (x:BK w base o c) (H:c.length<=100) (op arg:Int) (ha:G8 op arg) :
  Calls Tryz.prog 161 #[zP o,.func (.func 71) #[zP o] #[],.agg #[zO,zI op,zI arg,zO,zN]] w (Rt (.tuple #[]) fun w'=>BK w' base o (c++(BL 0++(BL op.toNat++BL arg.toNat)))/\Am (BO base o w) w w'):=by
 obtain⟨E,D,G,_⟩:=ha;have F:0<=op:=by omega
 have K:op<=1:=by omega
 obtain⟨g,r⟩:∃ q,q=BL (0:Int).toNat:=⟨_,rfl⟩
 obtain⟨m,s⟩:∃ q,q=BL op.toNat:=⟨_,rfl⟩
 obtain⟨u,t⟩:∃ q,q=BL arg.toNat:=⟨_,rfl⟩
 have I:g.length<=9:=by rw[r];exact BS (by omega)
 have J:m.length<=9:=by rw[s];exact BS (by omega)
 have C:Hid (c++(BL 0++(BL op.toNat++BL arg.toNat))=c++(g++(m++u))):=by show c++(BL 0++_)=_;rw[r,s,t];rfl
 have b:=Lh x;have z:Hid (∀ {w},BK w base o (c)->Calls Tryz.prog 71 #[zP o,zO] w (Rt (.tuple #[]) fun w'=>BK w' base o (c++g)/\Am (BO base o w) w w')):=by
  intro w n;have:=El n 0 (by omega) (by omega) (by omega)
  rwa [<- r] at this
 have A:Hid (∀ {w},BK w base o (c++g)->Calls Tryz.prog 71 #[zP o,zI op] w (Rt (.tuple #[]) fun w'=>BK w' base o (c++g++m)/\Am (BO base o w) w w')):=by
  intro w n;have:=El n op F (by omega) (by simp only[Ap];omega)
  rwa [<- s] at this
 have B:Hid (∀ {w},BK w base o (c++g++m)->Calls Tryz.prog 71 #[zP o,zI arg] w (Rt (.tuple #[]) fun w'=>BK w' base o (c++g++m++u)/\Am (BO base o w) w w')):=by
  intro w n;have:=El n arg D (by omega) (by simp only[Ap];omega)
  rwa [<- t] at this
 have L:(op==2)=false:=bF;have M:(op==3)=false:=bF;clear r s t x E;have a:Hid (AX (w.alloc (.cells #[zO,zI op,zI arg,zO,zN] 48)) w.heap.size 48 #[zO,zI op,zI arg,zO,zN]):=Lh (AX.new w _ _);have e:Hid (Am (BO base o w) w (w.alloc (.cells #[zO,zI op,zI arg,zO,zN] 48))):=Lh ((Aa _ w).alloc _);replace b:=Lh (b.out.AB ((Aa _ w).alloc (.cells #[zO,zI op,zI arg,zO,zN] 48)));go_in;go_upto_region 1 with(fail)
 generalize w.alloc (.cells #[zO,zI op,zI arg,zO,zN] 48)=N at a b e ⊢;have h:=a.out.cell 0;have i:=a.out.cell 1;have j:=a.out.cell 2;have k:=a.out.cell 3;have l:=a.out.cell 4;go_wp2_with (first
  |(go_at_call 71;(with_reducible refine(z.out b.out).mono ?_);rintro v y ⟨rfl,f,d⟩;have p:=BK.ge b.out;replace a:=Lh (a.out.Ab d (b.out.far a.out (by decide) (by decide)));replace e:=Lh (BO.AJ e.out d);replace b:=Lh f;clear d f p;clear h i j k l;have h:=a.out.cell 0;have i:=a.out.cell 1;have j:=a.out.cell 2;have k:=a.out.cell 3;have l:=a.out.cell 4)
  |(go_at_call 71;(with_reducible refine(A.out b.out).mono ?_);rintro v y ⟨rfl,f,d⟩;have p:=BK.ge b.out;replace a:=Lh (a.out.Ab d (b.out.far a.out (by decide) (by decide)));replace e:=Lh (BO.AJ e.out d);replace b:=Lh f;clear d f p;clear h i j k l;have h:=a.out.cell 0;have i:=a.out.cell 1;have j:=a.out.cell 2;have k:=a.out.cell 3;have l:=a.out.cell 4)
  |(go_at_call 71;(with_reducible refine(B.out b.out).mono ?_);rintro v y ⟨rfl,f,d⟩;have p:=BK.ge b.out;replace a:=Lh (a.out.Ab d (b.out.far a.out (by decide) (by decide)));replace e:=Lh (BO.AJ e.out d);replace b:=Lh f;clear d f p;clear h i j k l;have h:=a.out.cell 0;have i:=a.out.cell 1;have j:=a.out.cell 2;have k:=a.out.cell 3;have l:=a.out.cell 4))
 go_end0;exact⟨rfl,by rw[C.out];simpa only [BJ] using b.out,e.out⟩
theorem iO (D:BK w base o []) (ch:Int) (A:Option Addr) (k:Nat) (Z:List Ed) (U:Ey ch) (J:∀ z∈Z,Cn z.c) (T:Z.length<=8) (I:Dt w0 A Z) (H:Au w0 w) (R:w0.heap.size<=base) :
  Calls Tryz.prog 116 #[zP o,.func (.func 71) #[zP o] #[],.agg #[zI 1,zU ch,zO,zO,zO,zO,zO,zN,zO,zO,zE,.slice A Z.length k]] w (Rt (.tuple #[]) fun w'=>BK w' base o (Hm ch (Z.map (·.c)))/\Am (BO base o w) w w'):=by
 obtain⟨V,Y⟩:=U;obtain⟨g,B⟩:∃ y,y=BL (1:Int).toNat:=⟨_,rfl⟩
 have W:g.length<=9:=by rw[B];exact BS (by omega)
 obtain⟨u,C⟩:∃ y,y=BL ch.toNat:=⟨_,rfl⟩
 have X:u.length<=9:=by rw[C];exact BS (by omega)
 obtain⟨F,E⟩:∃ y,y=Gq (Z.map (·.c)):=⟨_,rfl⟩
 have O:Hid (Hm ch (Z.map (·.c))=g++(u++F)):=by show Hm ch (Z.map (·.c))=_;rw[B,C,E];rfl
 have b:=Lh D;have P:=Lh D.ge;have L:Hid (∀ {w},BK w base o ([])->Calls Tryz.prog 71 #[zP o,zI 1] w (Rt (.tuple #[]) fun w'=>BK w' base o (g)/\Am (BO base o w) w w')):=by
  intro w v;have:=El v 1 (by omega) (by omega) (by rw[CV];omega)
  rwa [<- B,BU] at this
 have M:Hid (∀ {w},BK w base o (g)->Calls Tryz.prog 71 #[zP o,zI ch] w (Rt (.tuple #[]) fun w'=>BK w' base o (g++u)/\Am (BO base o w) w w')):=by
  intro w v;have:=El v ch V (by omega) (by omega)
  rwa [<- C] at this
 have N:Hid (∀ {w},BK w base o (g++u)->Au w0 w->Calls Tryz.prog 160 #[zP o,.func (.func 71) #[zP o] #[],.slice A Z.length k] w (Rt (.tuple #[]) fun w'=>BK w' base o (g++u++F)/\Am (BO base o w) w w')):=by
  intro w v d;have:=Q5 v A k Z (by simp only[Ap];omega) J T I d R
  rwa [<- E] at this
 have Q:=Lh H;clear D B C E J I H;have a:Hid (AX (w.alloc (.cells #[zI 1,zU ch,zO,zO,zO,zO,zO,zN,zO,zO,zE,.slice A Z.length k] 104)) w.heap.size 104 #[zI 1,zU ch,zO,zO,zO,zO,zO,zN,zO,zO,zE,.slice A Z.length k]):=Lh (AX.new w _ _);have e:Hid (Am (BO base o w) w (w.alloc (.cells #[zI 1,zU ch,zO,zO,zO,zO,zO,zN,zO,zO,zE,.slice A Z.length k] 104))):=Lh ((Aa _ w).alloc _);replace b:=Lh (b.out.AB ((Aa _ w).alloc (.cells #[zI 1,zU ch,zO,zO,zO,zO,zO,zN,zO,zO,zE,.slice A Z.length k] 104)));go_in;go_upto_region 1 with(fail)
 generalize w.alloc (.cells #[zI 1,zU ch,zO,zO,zO,zO,zO,zN,zO,zO,zE,.slice A Z.length k] 104)=aa at a b e ⊢;have h:=a.out.cell 0;have i:=a.out.cell 1;have l:=a.out.cell 2;have m:=a.out.cell 3;have n:=a.out.cell 4;have p:=a.out.cell 5;have q:=a.out.cell 6;have r:=a.out.cell 7;have s:=a.out.cell 8;have t:=a.out.cell 9;have j:=a.out.cell 11;go_wp2_with (first
  |(go_at_call 71;(with_reducible refine(L.out b.out).mono ?_);rintro G K ⟨rfl,f,d⟩;have x:=BK.ge b.out;replace a:=Lh (a.out.Ab d (b.out.far a.out (by decide) (by decide)));replace e:=Lh (BO.AJ e.out d);replace b:=Lh f;clear d f x;clear h i l m n p q r s t j;have h:=a.out.cell 0;have i:=a.out.cell 1;have l:=a.out.cell 2;have m:=a.out.cell 3;have n:=a.out.cell 4;have p:=a.out.cell 5;have q:=a.out.cell 6;have r:=a.out.cell 7;have s:=a.out.cell 8;have t:=a.out.cell 9;have j:=a.out.cell 11)
  |(go_at_call 71;(with_reducible refine(M.out b.out).mono ?_);rintro G K ⟨rfl,f,d⟩;have x:=BK.ge b.out;replace a:=Lh (a.out.Ab d (b.out.far a.out (by decide) (by decide)));replace e:=Lh (BO.AJ e.out d);replace b:=Lh f;clear d f x;clear h i l m n p q r s t j;have h:=a.out.cell 0;have i:=a.out.cell 1;have l:=a.out.cell 2;have m:=a.out.cell 3;have n:=a.out.cell 4;have p:=a.out.cell 5;have q:=a.out.cell 6;have r:=a.out.cell 7;have s:=a.out.cell 8;have t:=a.out.cell 9;have j:=a.out.cell 11)
  |(go_at_call 160;(with_reducible refine(N.out b.out (Q.out.AJ e.out fun k d S=>by(have:=BO.ge P.out S;omega))).mono ?_);rintro G K ⟨rfl,f,d⟩;have x:=BK.ge b.out;replace a:=Lh (a.out.Ab d (b.out.far a.out (by decide) (by decide)));replace e:=Lh (BO.AJ e.out d);replace b:=Lh f;clear d f x;clear h i l m n p q r s t j;have h:=a.out.cell 0;have i:=a.out.cell 1;have l:=a.out.cell 2;have m:=a.out.cell 3;have n:=a.out.cell 4;have p:=a.out.cell 5;have q:=a.out.cell 6;have r:=a.out.cell 7;have s:=a.out.cell 8;have t:=a.out.cell 9;have j:=a.out.cell 11))
 go_end0;exact⟨rfl,by rw[O.out];simpa only [BJ] using b.out,e.out⟩
theorem aX (v:BK w base o []) (A:Option Addr) (k:Nat) (Z:List Ed) (G:∀ z∈Z,Cn z.c) (P:Z.length<=8) (F:Dt w0 A Z) (E:Au w0 w) (N:w0.heap.size<=base) :
  Calls Tryz.prog 116 #[zP o,.func (.func 71) #[zP o] #[],.agg #[zI 5,zU 0,zO,zO,zO,zO,zO,zN,zO,zO,zE,.slice A Z.length k]] w (Rt (.tuple #[]) fun w'=>BK w' base o (Gp (Z.map (·.c)))/\Am (BO base o w) w w'):=by
 obtain⟨f,h⟩:∃ C,C=BL (5:Int).toNat:=⟨_,rfl⟩
 have R:f.length<=9:=by rw[h];exact BS (by omega)
 obtain⟨D,y⟩:∃ C,C=Gq (Z.map (·.c)):=⟨_,rfl⟩
 have J:Hid (Gp (Z.map (·.c))=f++D):=by show Gp (Z.map (·.c))=_;rw[h,y];rfl
 have b:=Lh v;have K:=Lh v.ge;have H:Hid (∀ {w},BK w base o ([])->Calls Tryz.prog 71 #[zP o,zI 5] w (Rt (.tuple #[]) fun w'=>BK w' base o (f)/\Am (BO base o w) w w')):=by
  intro w x;have:=El x 5 (by omega) (by omega) (by rw[CV];omega)
  rwa [<- h,BU] at this
 have I:Hid (∀ {w},BK w base o (f)->Au w0 w->Calls Tryz.prog 160 #[zP o,.func (.func 71) #[zP o] #[],.slice A Z.length k] w (Rt (.tuple #[]) fun w'=>BK w' base o (f++D)/\Am (BO base o w) w w')):=by
  intro w x d;have:=Q5 x A k Z (by omega) G P F d N
  rwa [<- y] at this
 have L:=Lh E;clear v h y G F E;have a:Hid (AX (w.alloc (.cells #[zI 5,zU 0,zO,zO,zO,zO,zO,zN,zO,zO,zE,.slice A Z.length k] 104)) w.heap.size 104 #[zI 5,zU 0,zO,zO,zO,zO,zO,zN,zO,zO,zE,.slice A Z.length k]):=Lh (AX.new w _ _);have e:Hid (Am (BO base o w) w (w.alloc (.cells #[zI 5,zU 0,zO,zO,zO,zO,zO,zN,zO,zO,zE,.slice A Z.length k] 104))):=Lh ((Aa _ w).alloc _);replace b:=Lh (b.out.AB ((Aa _ w).alloc (.cells #[zI 5,zU 0,zO,zO,zO,zO,zO,zN,zO,zO,zE,.slice A Z.length k] 104)));go_in;go_upto_region 1 with(fail)
 generalize w.alloc (.cells #[zI 5,zU 0,zO,zO,zO,zO,zO,zN,zO,zO,zE,.slice A Z.length k] 104)=S at a b e ⊢;have i:=a.out.cell 0;have j:=a.out.cell 1;have m:=a.out.cell 2;have n:=a.out.cell 3;have p:=a.out.cell 4;have q:=a.out.cell 5;have r:=a.out.cell 6;have s:=a.out.cell 7;have t:=a.out.cell 8;have u:=a.out.cell 9;have l:=a.out.cell 11;go_wp2_with (first
  |(go_at_call 71;refine(H.out b.out).mono ?_;rintro M Q ⟨rfl,g,d⟩;have B:=BK.ge b.out;replace a:=Lh (a.out.Ab d (b.out.far a.out (by decide) (by decide)));replace e:=Lh (BO.AJ e.out d);replace b:=Lh g;clear d g B;clear i j m n p q r s t u l;have i:=a.out.cell 0;have j:=a.out.cell 1;have m:=a.out.cell 2;have n:=a.out.cell 3;have p:=a.out.cell 4;have q:=a.out.cell 5;have r:=a.out.cell 6;have s:=a.out.cell 7;have t:=a.out.cell 8;have u:=a.out.cell 9;have l:=a.out.cell 11)
  |(go_at_call 160;refine(I.out b.out (L.out.AJ e.out fun k d O=>by(have:=BO.ge K.out O;omega))).mono ?_;rintro M Q ⟨rfl,g,d⟩;have B:=BK.ge b.out;replace a:=Lh (a.out.Ab d (b.out.far a.out (by decide) (by decide)));replace e:=Lh (BO.AJ e.out d);replace b:=Lh g;clear d g B;clear i j m n p q r s t u l;have i:=a.out.cell 0;have j:=a.out.cell 1;have m:=a.out.cell 2;have n:=a.out.cell 3;have p:=a.out.cell 4;have q:=a.out.cell 5;have r:=a.out.cell 6;have s:=a.out.cell 7;have t:=a.out.cell 8;have u:=a.out.cell 9;have l:=a.out.cell 11))
 go_end0;exact⟨rfl,by rw[J.out];simpa only [BJ] using b.out,e.out⟩
theorem iN (F:BK w base o []) (ch seq op arg:Int) (M:Ey ch) (L:0<=seq) (hs1:seq<=1000) (ha:G8 op arg) :
  Calls Tryz.prog 116 #[zP o,.func (.func 71) #[zP o] #[],.agg #[zI 2,zU ch,zI seq,zO,zI op,zI arg,zO,zN,zO,zO,zE,zN]] w (Rt (.tuple #[]) fun w'=>BK w' base o (F8 ch seq op arg)/\Am (BO base o w) w w'):=by
 obtain⟨N,R⟩:=M;obtain⟨f,y⟩:∃ v,v=BL (2:Int).toNat:=⟨_,rfl⟩
 have O:f.length<=9:=by rw[y];exact BS (by omega)
 obtain⟨s,z⟩:∃ v,v=BL ch.toNat:=⟨_,rfl⟩
 have P:s.length<=9:=by rw[z];exact BS (by omega)
 obtain⟨x,A⟩:∃ v,v=BL seq.toNat:=⟨_,rfl⟩
 have Q:x.length<=9:=by rw[A];exact BS (by omega)
 obtain⟨E,C⟩:∃ v,v=BL 0++(BL op.toNat++BL arg.toNat):=⟨_,rfl⟩
 have K:Hid (F8 ch seq op arg=f++(s++(x++E))):=by show F8 ch seq op arg=_;rw[y,z,A,C];rfl
 have b:=Lh F;have G:Hid (∀ {w},BK w base o ([])->Calls Tryz.prog 71 #[zP o,zI 2] w (Rt (.tuple #[]) fun w'=>BK w' base o (f)/\Am (BO base o w) w w')):=by
  intro w t;have:=El t 2 (by omega) (by omega) (by rw[CV];omega)
  rwa [<- y,BU] at this
 have H:Hid (∀ {w},BK w base o (f)->Calls Tryz.prog 71 #[zP o,zI ch] w (Rt (.tuple #[]) fun w'=>BK w' base o (f++s)/\Am (BO base o w) w w')):=by
  intro w t;have:=El t ch N (by omega) (by omega)
  rwa [<- z] at this
 have I:Hid (∀ {w},BK w base o (f++s)->Calls Tryz.prog 71 #[zP o,zI seq] w (Rt (.tuple #[]) fun w'=>BK w' base o (f++s++x)/\Am (BO base o w) w w')):=by
  intro w t;have:=El t seq L (by omega) (by simp only[Ap];omega)
  rwa [<- A] at this
 have J:Hid (∀ {w},BK w base o (f++s++x)->Calls Tryz.prog 161 #[zP o,.func (.func 71) #[zP o] #[],.agg #[zO,zI op,zI arg,zO,zN]] w (Rt (.tuple #[]) fun w'=>BK w' base o (f++s++x++E)/\Am (BO base o w) w w')):=by
  intro w t;have:=eU t (by simp only[Ap];omega) op arg ha
  rwa [<- C] at this
 clear F y z A C ha;have a:Hid (AX (w.alloc (.cells #[zI 2,zU ch,zI seq,zO,zI op,zI arg,zO,zN,zO,zO,zE,zN] 104)) w.heap.size 104 #[zI 2,zU ch,zI seq,zO,zI op,zI arg,zO,zN,zO,zO,zE,zN]):=Lh (AX.new w _ _);have e:Hid (Am (BO base o w) w (w.alloc (.cells #[zI 2,zU ch,zI seq,zO,zI op,zI arg,zO,zN,zO,zO,zE,zN] 104))):=Lh ((Aa _ w).alloc _);replace b:=Lh (b.out.AB ((Aa _ w).alloc (.cells #[zI 2,zU ch,zI seq,zO,zI op,zI arg,zO,zN,zO,zO,zE,zN] 104)));go_in;go_upto_region 1 with(fail)
 generalize w.alloc (.cells #[zI 2,zU ch,zI seq,zO,zI op,zI arg,zO,zN,zO,zO,zE,zN] 104)=S at a b e ⊢;have g:=a.out.cell 0;have h:=a.out.cell 1;have j:=a.out.cell 2;have k:=a.out.cell 3;have l:=a.out.cell 4;have m:=a.out.cell 5;have n:=a.out.cell 6;have p:=a.out.cell 7;have q:=a.out.cell 8;have r:=a.out.cell 9;have i:=a.out.cell 11;go_wp2_with (first
  |(go_at_call 71;(with_reducible refine(G.out b.out).mono ?_);rintro B D ⟨rfl,d,c⟩;have u:=BK.ge b.out;replace a:=Lh (a.out.Ab c (b.out.far a.out (by decide) (by decide)));replace e:=Lh (BO.AJ e.out c);replace b:=Lh d;clear c d u;clear g h j k l m n p q r i;have g:=a.out.cell 0;have h:=a.out.cell 1;have j:=a.out.cell 2;have k:=a.out.cell 3;have l:=a.out.cell 4;have m:=a.out.cell 5;have n:=a.out.cell 6;have p:=a.out.cell 7;have q:=a.out.cell 8;have r:=a.out.cell 9;have i:=a.out.cell 11)
  |(go_at_call 71;(with_reducible refine(H.out b.out).mono ?_);rintro B D ⟨rfl,d,c⟩;have u:=BK.ge b.out;replace a:=Lh (a.out.Ab c (b.out.far a.out (by decide) (by decide)));replace e:=Lh (BO.AJ e.out c);replace b:=Lh d;clear c d u;clear g h j k l m n p q r i;have g:=a.out.cell 0;have h:=a.out.cell 1;have j:=a.out.cell 2;have k:=a.out.cell 3;have l:=a.out.cell 4;have m:=a.out.cell 5;have n:=a.out.cell 6;have p:=a.out.cell 7;have q:=a.out.cell 8;have r:=a.out.cell 9;have i:=a.out.cell 11)
  |(go_at_call 71;(with_reducible refine(I.out b.out).mono ?_);rintro B D ⟨rfl,d,c⟩;have u:=BK.ge b.out;replace a:=Lh (a.out.Ab c (b.out.far a.out (by decide) (by decide)));replace e:=Lh (BO.AJ e.out c);replace b:=Lh d;clear c d u;clear g h j k l m n p q r i;have g:=a.out.cell 0;have h:=a.out.cell 1;have j:=a.out.cell 2;have k:=a.out.cell 3;have l:=a.out.cell 4;have m:=a.out.cell 5;have n:=a.out.cell 6;have p:=a.out.cell 7;have q:=a.out.cell 8;have r:=a.out.cell 9;have i:=a.out.cell 11)
  |(go_at_call 161;(with_reducible refine(J.out b.out).mono ?_);rintro B D ⟨rfl,d,c⟩;have u:=BK.ge b.out;replace a:=Lh (a.out.Ab c (b.out.far a.out (by decide) (by decide)));replace e:=Lh (BO.AJ e.out c);replace b:=Lh d;clear c d u;clear g h j k l m n p q r i;have g:=a.out.cell 0;have h:=a.out.cell 1;have j:=a.out.cell 2;have k:=a.out.cell 3;have l:=a.out.cell 4;have m:=a.out.cell 5;have n:=a.out.cell 6;have p:=a.out.cell 7;have q:=a.out.cell 8;have r:=a.out.cell 9;have i:=a.out.cell 11))
 go_end0;exact⟨rfl,by rw[K.out];simpa only [BJ] using b.out,e.out⟩
theorem aY (I:BK w base o []) (ch seq er v:Int) (R:Ey ch) (Q:0<=seq) (hs1:seq<=1000) (P:0<=er) (Y:er<=100) (T:0<=v) (aa:v<=1000000) :
  Calls Tryz.prog 116 #[zP o,.func (.func 71) #[zP o] #[],.agg #[zI 3,zU ch,zI seq,zO,zO,zO,zO,zN,zI er,zI v,zE,zN]] w (Rt (.tuple #[]) fun w'=>BK w' base o (Fg ch seq er v)/\Am (BO base o w) w w'):=by
 obtain⟨S,Z⟩:=R;obtain⟨f,B⟩:∃ x,x=BL (3:Int).toNat:=⟨_,rfl⟩
 have U:f.length<=9:=by rw[B];exact BS (by omega)
 obtain⟨s,C⟩:∃ x,x=BL ch.toNat:=⟨_,rfl⟩
 have V:s.length<=9:=by rw[C];exact BS (by omega)
 obtain⟨y,D⟩:∃ x,x=BL seq.toNat:=⟨_,rfl⟩
 have W:y.length<=9:=by rw[D];exact BS (by omega)
 obtain⟨z,E⟩:∃ x,x=BL er.toNat:=⟨_,rfl⟩
 have X:z.length<=9:=by rw[E];exact BS (by omega)
 obtain⟨H,G⟩:∃ x,x=BL v.toNat:=⟨_,rfl⟩
 have O:Hid (Fg ch seq er v=f++(s++(y++(z++H)))):=by show Fg ch seq er v=_;rw[B,C,D,E,G];rfl
 have b:=Lh I;have J:Hid (∀ {w},BK w base o ([])->Calls Tryz.prog 71 #[zP o,zI 3] w (Rt (.tuple #[]) fun w'=>BK w' base o (f)/\Am (BO base o w) w w')):=by
  intro w t;have:=El t 3 (by omega) (by omega) (by rw[CV];omega)
  rwa [<- B,BU] at this
 have K:Hid (∀ {w},BK w base o (f)->Calls Tryz.prog 71 #[zP o,zI ch] w (Rt (.tuple #[]) fun w'=>BK w' base o (f++s)/\Am (BO base o w) w w')):=by
  intro w t;have:=El t ch S (by omega) (by omega)
  rwa [<- C] at this
 have L:Hid (∀ {w},BK w base o (f++s)->Calls Tryz.prog 71 #[zP o,zI seq] w (Rt (.tuple #[]) fun w'=>BK w' base o (f++s++y)/\Am (BO base o w) w w')):=by
  intro w t;have:=El t seq Q (by omega) (by simp only[Ap];omega)
  rwa [<- D] at this
 have M:Hid (∀ {w},BK w base o (f++s++y)->Calls Tryz.prog 71 #[zP o,zI er] w (Rt (.tuple #[]) fun w'=>BK w' base o (f++s++y++z)/\Am (BO base o w) w w')):=by
  intro w t;have:=El t er P (by omega) (by simp only[Ap];omega)
  rwa [<- E] at this
 have N:Hid (∀ {w},BK w base o (f++s++y++z)->Calls Tryz.prog 71 #[zP o,zI v] w (Rt (.tuple #[]) fun w'=>BK w' base o (f++s++y++z++H)/\Am (BO base o w) w w')):=by
  intro w t;have:=El t v T (by omega) (by simp only[Ap];omega)
  rwa [<- G] at this
 clear I B C D E G;have a:Hid (AX (w.alloc (.cells #[zI 3,zU ch,zI seq,zO,zO,zO,zO,zN,zI er,zI v,zE,zN] 104)) w.heap.size 104 #[zI 3,zU ch,zI seq,zO,zO,zO,zO,zN,zI er,zI v,zE,zN]):=Lh (AX.new w _ _);have e:Hid (Am (BO base o w) w (w.alloc (.cells #[zI 3,zU ch,zI seq,zO,zO,zO,zO,zN,zI er,zI v,zE,zN] 104))):=Lh ((Aa _ w).alloc _);replace b:=Lh (b.out.AB ((Aa _ w).alloc (.cells #[zI 3,zU ch,zI seq,zO,zO,zO,zO,zN,zI er,zI v,zE,zN] 104)));go_in;go_upto_region 1 with(fail)
 generalize w.alloc (.cells #[zI 3,zU ch,zI seq,zO,zO,zO,zO,zN,zI er,zI v,zE,zN] 104)=ab at a b e ⊢;have g:=a.out.cell 0;have h:=a.out.cell 1;have j:=a.out.cell 2;have k:=a.out.cell 3;have l:=a.out.cell 4;have m:=a.out.cell 5;have n:=a.out.cell 6;have p:=a.out.cell 7;have q:=a.out.cell 8;have r:=a.out.cell 9;have i:=a.out.cell 11;go_wp2_with (first
  |(go_at_call 71;(with_reducible refine(J.out b.out).mono ?_);rintro A F ⟨rfl,d,c⟩;have u:=BK.ge b.out;replace a:=Lh (a.out.Ab c (b.out.far a.out (by decide) (by decide)));replace e:=Lh (BO.AJ e.out c);replace b:=Lh d;clear c d u;clear g h j k l m n p q r i;have g:=a.out.cell 0;have h:=a.out.cell 1;have j:=a.out.cell 2;have k:=a.out.cell 3;have l:=a.out.cell 4;have m:=a.out.cell 5;have n:=a.out.cell 6;have p:=a.out.cell 7;have q:=a.out.cell 8;have r:=a.out.cell 9;have i:=a.out.cell 11)
  |(go_at_call 71;(with_reducible refine(K.out b.out).mono ?_);rintro A F ⟨rfl,d,c⟩;have u:=BK.ge b.out;replace a:=Lh (a.out.Ab c (b.out.far a.out (by decide) (by decide)));replace e:=Lh (BO.AJ e.out c);replace b:=Lh d;clear c d u;clear g h j k l m n p q r i;have g:=a.out.cell 0;have h:=a.out.cell 1;have j:=a.out.cell 2;have k:=a.out.cell 3;have l:=a.out.cell 4;have m:=a.out.cell 5;have n:=a.out.cell 6;have p:=a.out.cell 7;have q:=a.out.cell 8;have r:=a.out.cell 9;have i:=a.out.cell 11)
  |(go_at_call 71;(with_reducible refine(L.out b.out).mono ?_);rintro A F ⟨rfl,d,c⟩;have u:=BK.ge b.out;replace a:=Lh (a.out.Ab c (b.out.far a.out (by decide) (by decide)));replace e:=Lh (BO.AJ e.out c);replace b:=Lh d;clear c d u;clear g h j k l m n p q r i;have g:=a.out.cell 0;have h:=a.out.cell 1;have j:=a.out.cell 2;have k:=a.out.cell 3;have l:=a.out.cell 4;have m:=a.out.cell 5;have n:=a.out.cell 6;have p:=a.out.cell 7;have q:=a.out.cell 8;have r:=a.out.cell 9;have i:=a.out.cell 11)
  |(go_at_call 71;(with_reducible refine(M.out b.out).mono ?_);rintro A F ⟨rfl,d,c⟩;have u:=BK.ge b.out;replace a:=Lh (a.out.Ab c (b.out.far a.out (by decide) (by decide)));replace e:=Lh (BO.AJ e.out c);replace b:=Lh d;clear c d u;clear g h j k l m n p q r i;have g:=a.out.cell 0;have h:=a.out.cell 1;have j:=a.out.cell 2;have k:=a.out.cell 3;have l:=a.out.cell 4;have m:=a.out.cell 5;have n:=a.out.cell 6;have p:=a.out.cell 7;have q:=a.out.cell 8;have r:=a.out.cell 9;have i:=a.out.cell 11)
  |(go_at_call 71;(with_reducible refine(N.out b.out).mono ?_);rintro A F ⟨rfl,d,c⟩;have u:=BK.ge b.out;replace a:=Lh (a.out.Ab c (b.out.far a.out (by decide) (by decide)));replace e:=Lh (BO.AJ e.out c);replace b:=Lh d;clear c d u;clear g h j k l m n p q r i;have g:=a.out.cell 0;have h:=a.out.cell 1;have j:=a.out.cell 2;have k:=a.out.cell 3;have l:=a.out.cell 4;have m:=a.out.cell 5;have n:=a.out.cell 6;have p:=a.out.cell 7;have q:=a.out.cell 8;have r:=a.out.cell 9;have i:=a.out.cell 11))
 go_end0;exact⟨rfl,by rw[O.out];simpa only [BJ] using b.out,e.out⟩
end

section
variable {w w' W w0:Bc} {base o:Nat}
theorem Ri (ch:Int) (A:Option Addr) (k:Nat) (Z:List Ed) (w:Bc) (g:Ey ch) (x:ch/8192=2) (h:∀ z∈Z,Cn z.c) (D:Z.length<=8) (p:Dt w A Z) :
  Calls Tryz.prog 63 #[.agg #[zI 1,zU ch,zO,zO,zO,zO,zO,zN,zO,zO,zE,.slice A Z.length k]] w (Rt (.tuple #[.string (Dy (Hm ch (Z.map (·.c)))),zO]) (Au w)):=by
 have F:=Lh fun W (j:Au w W)=>Ws ch A k Z W g x h D (p.AB j)
 have q:=Lh fun W base o (H:BK W base o []) (j:Au w W) (I:w.heap.size<=base)=>iO H ch A k Z g h D p j I
 have C:(Hm ch (Z.map (·.c))).length<=4000:=by
  have P:=JF (L:=Z.map (·.c)) (by intro O J;obtain⟨z,N,rfl⟩:=Bp.1 J;exact h z N);have Q:=BS (n:=(Z.map (·.c)).length) (by rw[Be];omega);have R:=BS (n:=1) (by omega);have S:=BS (n:=ch.toNat) (by have:=g.2;omega);unfold Hm Gq;simp only[Ap];rw[Be] at *;omega
 have M:(Dy (Hm ch (Z.map (·.c)))).size<=4000:=by rw[E5];exact C
 have t:decide (((Dy (Hm ch (Z.map (·.c)))).size:Int) > 4000)=false:=by rw[Ag];omega
 have u:decide ((4000:Int)<((Dy (Hm ch (Z.map (·.c)))).size:Int))=false:=by rw[Ag];omega
 have b:Hid (AX (w.alloc (.cells #[zI 1,zU ch,zO,zO,zO,zO,zO,zN,zO,zO,zE,.slice A Z.length k] 104)) w.heap.size 104 #[zI 1,zU ch,zO,zO,zO,zO,zO,zN,zO,zO,zE,.slice A Z.length k]):=Lh (AX.new w _ _);have a:Hid (Au w (w.alloc (.cells #[zI 1,zU ch,zO,zO,zO,zO,zO,zN,zO,zO,zE,.slice A Z.length k] 104))):=Lh ((Aa _ w).alloc _);obtain⟨i,m⟩:∃ i,i=Hm ch (Z.map (·.c)):=⟨_,rfl⟩
 rw[<- m] at q t u;have G:=Lh m;clear C M m g x h p;obtain⟨s,l⟩:∃ s,s=Dy i:=⟨_,rfl⟩
 rw[<- l] at t u;have r:=Lh l;clear l;go_in;go_upto_region 1 with(fail)
 generalize w.alloc (.cells #[zI 1,zU ch,zO,zO,zO,zO,zO,zN,zO,zO,zE,.slice A Z.length k] 104)=U at b a ⊢;go_upto_region 3 with(first
  |(refine AA rfl (.tmp 1) rfl rfl b.out Tryz.underlying104 rfl BM ?_)
  |(go_at_call 115;refine(F.out _ a.out).mono ?_;rintro v d ⟨rfl,e⟩;replace b:=Lh (b.out.Ab e id);replace a:=Lh (a.out.to e);clear e))
 have f:Hid (BK (d.alloc (.cells #[zO,zN] 175)) d.heap.size d.heap.size []):=Lh (BK.new d);have E:w.heap.size<=d.heap.size:=a.out.size;replace b:=Lh (b.out.alloc (.cells #[zO,zN] 175));replace a:=Lh (a.out.alloc (.cells #[zO,zN] 175));go_upto_region 4 with(fail)
 generalize d.alloc (.cells #[zO,zN] 175)=V at b a f ⊢;obtain⟨base,B⟩:∃ base,base=d.heap.size:=⟨_,rfl⟩
 rw[<- B] at f E ⊢;clear B;go_wp2_with (first
  |(refine AA rfl (.tmp 1) rfl rfl b.out Tryz.underlying104 rfl BM ?_)
  |(go_at_call 116;refine(q.out _ _ _ f.out a.out E).mono ?_;rintro v X ⟨rfl,y,e⟩;replace a:=Lh (a.out.AJ e fun k T K=>by(have:=BO.ge (AY _) K;omega));replace f:=Lh y;clear e y)
  |(go_at_call 73;refine(Je f.out).mono ?_;rintro v Y ⟨rfl,rfl⟩;rw[<- r.out]))
 go_ret2;exact⟨by rw[<- G.out,<- r.out];rfl,a.out⟩
theorem XW (ch:Int) (A:Option Addr) (k:Nat) (Z:List Ed) (w:Bc) (f:Ey ch) (c:ch/8192=2) (g:∀ z∈Z,Cn z.c) (j:Z.length<=8) (e:Dt w A Z) :
  Calls Tryz.prog 141 #[.agg #[zI 1,zU ch,zO,zO,zO,zO,zO,zN,zO,zO,zE,.slice A Z.length k]] w (Rt (.bool true) (Au w)):=by
 have h:=Lh fun W (i:Au w W)=>Ri ch A k Z W f c g j (e.AB i)
 have b:Hid (AX (w.alloc (.cells #[zI 1,zU ch,zO,zO,zO,zO,zO,zN,zO,zO,zE,.slice A Z.length k] 104)) w.heap.size 104 #[zI 1,zU ch,zO,zO,zO,zO,zO,zN,zO,zO,zE,.slice A Z.length k]):=Lh (AX.new w _ _);have a:Hid (Au w (w.alloc (.cells #[zI 1,zU ch,zO,zO,zO,zO,zO,zN,zO,zO,zE,.slice A Z.length k] 104))):=Lh ((Aa _ w).alloc _);clear f c g e;go_in;go_upto_region 1 with(fail)
 generalize w.alloc (.cells #[zI 1,zU ch,zO,zO,zO,zO,zO,zN,zO,zO,zE,.slice A Z.length k] 104)=m at b a ⊢;go_wp2_with (first
  |(refine AA rfl (.tmp 1) rfl rfl b.out Tryz.underlying104 rfl BM ?_)
  |(go_at_call 63;refine(h.out _ a.out).mono ?_;rintro l n ⟨rfl,d⟩;replace a:=Lh (a.out.to d);clear d))
 go_ret;exact⟨rfl,a.out⟩
theorem PS (A:Option Addr) (k:Nat) (Z:List Ed) (w:Bc) (g:∀ z∈Z,Cn z.c) (B:Z.length<=8) (m:Dt w A Z) :
  Calls Tryz.prog 63 #[.agg #[zI 5,zU 0,zO,zO,zO,zO,zO,zN,zO,zO,zE,.slice A Z.length k]] w (Rt (.tuple #[.string (Dy (Gp (Z.map (·.c)))),zO]) (Au w)):=by
 have D:=Lh fun W (i:Au w W)=>U7 A k Z W g B (m.AB i)
 have p:=Lh fun W base o (F:BK W base o []) (i:Au w W) (G:w.heap.size<=base)=>aX F A k Z g B m i G
 have y:(Gp (Z.map (·.c))).length<=4000:=by
  have N:=JF (L:=Z.map (·.c)) (by intro M H;obtain⟨z,K,rfl⟩:=Bp.1 H;exact g z K);have O:=BS (n:=(Z.map (·.c)).length) (by rw[Be];omega);have P:=BS (n:=5) (by omega);unfold Gp Gq;simp only[Ap];rw[Be] at *;omega
 have J:(Dy (Gp (Z.map (·.c)))).size<=4000:=by rw[E5];exact y
 have s:decide (((Dy (Gp (Z.map (·.c)))).size:Int) > 4000)=false:=by rw[Ag];omega
 have t:decide ((4000:Int)<((Dy (Gp (Z.map (·.c)))).size:Int))=false:=by rw[Ag];omega
 have b:Hid (AX (w.alloc (.cells #[zI 5,zU 0,zO,zO,zO,zO,zO,zN,zO,zO,zE,.slice A Z.length k] 104)) w.heap.size 104 #[zI 5,zU 0,zO,zO,zO,zO,zO,zN,zO,zO,zE,.slice A Z.length k]):=Lh (AX.new w _ _);have a:Hid (Au w (w.alloc (.cells #[zI 5,zU 0,zO,zO,zO,zO,zO,zN,zO,zO,zE,.slice A Z.length k] 104))):=Lh ((Aa _ w).alloc _);obtain⟨h,l⟩:∃ h,h=Gp (Z.map (·.c)):=⟨_,rfl⟩
 rw[<- l] at p s t;have E:=Lh l;clear y J l g m;obtain⟨r,j⟩:∃ r,r=Dy h:=⟨_,rfl⟩
 rw[<- j] at s t;have q:=Lh j;clear j;go_in;go_upto_region 1 with(fail)
 generalize w.alloc (.cells #[zI 5,zU 0,zO,zO,zO,zO,zO,zN,zO,zO,zE,.slice A Z.length k] 104)=R at b a ⊢;go_upto_region 3 with(first
  |(refine AA rfl (.tmp 1) rfl rfl b.out Tryz.underlying104 rfl BM ?_)
  |(go_at_call 115;refine(D.out _ a.out).mono ?_;rintro u d ⟨rfl,e⟩;replace b:=Lh (b.out.Ab e id);replace a:=Lh (a.out.to e);clear e))
 have f:Hid (BK (d.alloc (.cells #[zO,zN] 175)) d.heap.size d.heap.size []):=Lh (BK.new d);have C:w.heap.size<=d.heap.size:=a.out.size;replace b:=Lh (b.out.alloc (.cells #[zO,zN] 175));replace a:=Lh (a.out.alloc (.cells #[zO,zN] 175));go_upto_region 4 with(fail)
 generalize d.alloc (.cells #[zO,zN] 175)=S at b a f ⊢;obtain⟨base,x⟩:∃ base,base=d.heap.size:=⟨_,rfl⟩
 rw[<- x] at f C ⊢;clear x;go_wp2_with (first
  |(refine AA rfl (.tmp 1) rfl rfl b.out Tryz.underlying104 rfl BM ?_)
  |(go_at_call 116;refine(p.out _ _ _ f.out a.out C).mono ?_;rintro u T ⟨rfl,v,e⟩;replace a:=Lh (a.out.AJ e fun k Q I=>by(have:=BO.ge (AY _) I;omega));replace f:=Lh v;clear e v)
  |(go_at_call 73;refine(Je f.out).mono ?_;rintro u U ⟨rfl,rfl⟩;rw[<- q.out]))
 go_ret2;exact⟨by rw[<- E.out,<- q.out];rfl,a.out⟩
theorem VS (A:Option Addr) (k:Nat) (Z:List Ed) (w:Bc) (e:∀ z∈Z,Cn z.c) (h:Z.length<=8) (d:Dt w A Z) :
  Calls Tryz.prog 141 #[.agg #[zI 5,zU 0,zO,zO,zO,zO,zO,zN,zO,zO,zE,.slice A Z.length k]] w (Rt (.bool true) (Au w)):=by
 have f:=Lh fun W (g:Au w W)=>PS A k Z W e h (d.AB g)
 have b:Hid (AX (w.alloc (.cells #[zI 5,zU 0,zO,zO,zO,zO,zO,zN,zO,zO,zE,.slice A Z.length k] 104)) w.heap.size 104 #[zI 5,zU 0,zO,zO,zO,zO,zO,zN,zO,zO,zE,.slice A Z.length k]):=Lh (AX.new w _ _);have a:Hid (Au w (w.alloc (.cells #[zI 5,zU 0,zO,zO,zO,zO,zO,zN,zO,zO,zE,.slice A Z.length k] 104))):=Lh ((Aa _ w).alloc _);clear e d;go_in;go_upto_region 1 with(fail)
 generalize w.alloc (.cells #[zI 5,zU 0,zO,zO,zO,zO,zO,zN,zO,zO,zE,.slice A Z.length k] 104)=j at b a ⊢;go_wp2_with (first
  |(refine AA rfl (.tmp 1) rfl rfl b.out Tryz.underlying104 rfl BM ?_)
  |(go_at_call 63;refine(f.out _ a.out).mono ?_;rintro i l ⟨rfl,c⟩;replace a:=Lh (a.out.to c);clear c))
 go_ret;exact⟨rfl,a.out⟩
theorem NQ (ch seq op arg:Int) (w:Bc) (f:Ey ch) (r:ch/8192=2) (x:0<=seq) (hs1:seq<=1000) (ha:G8 op arg) :
  Calls Tryz.prog 63 #[.agg #[zI 2,zU ch,zI seq,zO,zI op,zI arg,zO,zN,zO,zO,zE,zN]] w (Rt (.tuple #[.string (Dy (F8 ch seq op arg)),zO]) (Au w)):=by
 have y:=Lh fun W (B:Au w W)=>Wq ch seq op arg W f r x hs1 ha
 have j:=Lh fun W base o (A:BK W base o []) (B:Au w W) (E:w.heap.size<=base)=>iN A ch seq op arg f x hs1 ha
 have u:(F8 ch seq op arg).length<=4000:=by
  have:=BS (n:=2) (by omega);have:=BS (n:=0) (by omega);have:=BS (n:=ch.toNat) (by have:=f.2;omega);have:=BS (n:=seq.toNat) (by omega);have:=BS (n:=op.toNat) (by have:=ha.o;omega);have:=BS (n:=arg.toNat) (by have:=ha.a1;omega);unfold F8;simp only[Ap];omega
 have D:(Dy (F8 ch seq op arg)).size<=4000:=by rw[E5];exact u
 have m:decide (((Dy (F8 ch seq op arg)).size:Int) > 4000)=false:=by rw[Ag];omega
 have p:decide ((4000:Int)<((Dy (F8 ch seq op arg)).size:Int))=false:=by rw[Ag];omega
 have b:Hid (AX (w.alloc (.cells #[zI 2,zU ch,zI seq,zO,zI op,zI arg,zO,zN,zO,zO,zE,zN] 104)) w.heap.size 104 #[zI 2,zU ch,zI seq,zO,zI op,zI arg,zO,zN,zO,zO,zE,zN]):=Lh (AX.new w _ _);have a:Hid (Au w (w.alloc (.cells #[zI 2,zU ch,zI seq,zO,zI op,zI arg,zO,zN,zO,zO,zE,zN] 104))):=Lh ((Aa _ w).alloc _);obtain⟨g,i⟩:∃ g,g=F8 ch seq op arg:=⟨_,rfl⟩
 rw[<- i] at j m p;have z:=Lh i;clear u D i f r ha;obtain⟨l,h⟩:∃ l,l=Dy g:=⟨_,rfl⟩
 rw[<- h] at m p;have k:=Lh h;clear h;go_in;go_upto_region 1 with(fail)
 generalize w.alloc (.cells #[zI 2,zU ch,zI seq,zO,zI op,zI arg,zO,zN,zO,zO,zE,zN] 104)=H at b a ⊢;go_upto_region 3 with(first
  |(refine AA rfl (.tmp 1) rfl rfl b.out Tryz.underlying104 rfl BM ?_)
  |(go_at_call 115;refine(y.out _ a.out).mono ?_;rintro q c ⟨rfl,d⟩;replace b:=Lh (b.out.Ab d id);replace a:=Lh (a.out.to d);clear d))
 have e:Hid (BK (c.alloc (.cells #[zO,zN] 175)) c.heap.size c.heap.size []):=Lh (BK.new c);have v:w.heap.size<=c.heap.size:=a.out.size;replace b:=Lh (b.out.alloc (.cells #[zO,zN] 175));replace a:=Lh (a.out.alloc (.cells #[zO,zN] 175));go_upto_region 4 with(fail)
 generalize c.alloc (.cells #[zO,zN] 175)=I at b a e ⊢;obtain⟨base,t⟩:∃ base,base=c.heap.size:=⟨_,rfl⟩
 rw[<- t] at e v ⊢;clear t;go_wp2_with (first
  |(refine AA rfl (.tmp 1) rfl rfl b.out Tryz.underlying104 rfl BM ?_)
  |(go_at_call 116;refine(j.out _ _ _ e.out a.out v).mono ?_;rintro q J ⟨rfl,s,d⟩;replace a:=Lh (a.out.AJ d fun G F C=>by(have:=BO.ge (AY _) C;omega));replace e:=Lh s;clear d s)
  |(go_at_call 73;refine(Je e.out).mono ?_;rintro q K ⟨rfl,rfl⟩;rw[<- k.out]))
 go_ret2;exact⟨by rw[<- z.out,<- k.out];rfl,a.out⟩
theorem XV (ch seq op arg:Int) (w:Bc) (e:Ey ch) (c:ch/8192=2) (g:0<=seq) (hs1:seq<=1000) (ha:G8 op arg) :
  Calls Tryz.prog 141 #[.agg #[zI 2,zU ch,zI seq,zO,zI op,zI arg,zO,zN,zO,zO,zE,zN]] w (Rt (.bool true) (Au w)):=by
 have f:=Lh fun W (i:Au w W)=>NQ ch seq op arg W e c g hs1 ha
 have b:Hid (AX (w.alloc (.cells #[zI 2,zU ch,zI seq,zO,zI op,zI arg,zO,zN,zO,zO,zE,zN] 104)) w.heap.size 104 #[zI 2,zU ch,zI seq,zO,zI op,zI arg,zO,zN,zO,zO,zE,zN]):=Lh (AX.new w _ _);have a:Hid (Au w (w.alloc (.cells #[zI 2,zU ch,zI seq,zO,zI op,zI arg,zO,zN,zO,zO,zE,zN] 104))):=Lh ((Aa _ w).alloc _);clear e c ha;go_in;go_upto_region 1 with(fail)
 generalize w.alloc (.cells #[zI 2,zU ch,zI seq,zO,zI op,zI arg,zO,zN,zO,zO,zE,zN] 104)=j at b a ⊢;go_wp2_with (first
  |(refine AA rfl (.tmp 1) rfl rfl b.out Tryz.underlying104 rfl BM ?_)
  |(go_at_call 63;refine(f.out _ a.out).mono ?_;rintro h k ⟨rfl,d⟩;replace a:=Lh (a.out.to d);clear d))
 go_ret;exact⟨rfl,a.out⟩
theorem M8 (ch seq er v:Int) (w:Bc) (f:Ey ch) (r:ch/8192=2) (A:0<=seq) (hs1:seq<=1000) (x:0<=er) (y:er<=100) (B:0<=v) (C:v<=1000000) :
  Calls Tryz.prog 63 #[.agg #[zI 3,zU ch,zI seq,zO,zO,zO,zO,zN,zI er,zI v,zE,zN]] w (Rt (.tuple #[.string (Dy (Fg ch seq er v)),zO]) (Au w)):=by
 have D:=Lh fun W (G:Au w W)=>U8 ch seq er v W f r A hs1 x y B C
 have j:=Lh fun W base o (F:BK W base o []) (G:Au w W) (J:w.heap.size<=base)=>aY F ch seq er v f A hs1 x y B C
 have u:(Fg ch seq er v).length<=4000:=by
  have:=BS (n:=3) (by omega);have:=BS (n:=ch.toNat) (by have:=f.2;omega);have:=BS (n:=seq.toNat) (by omega);have:=BS (n:=er.toNat) (by omega);have:=BS (n:=v.toNat) (by omega);unfold Fg;simp only[Ap];omega
 have I:(Dy (Fg ch seq er v)).size<=4000:=by rw[E5];exact u
 have m:decide (((Dy (Fg ch seq er v)).size:Int) > 4000)=false:=by rw[Ag];omega
 have p:decide ((4000:Int)<((Dy (Fg ch seq er v)).size:Int))=false:=by rw[Ag];omega
 have b:Hid (AX (w.alloc (.cells #[zI 3,zU ch,zI seq,zO,zO,zO,zO,zN,zI er,zI v,zE,zN] 104)) w.heap.size 104 #[zI 3,zU ch,zI seq,zO,zO,zO,zO,zN,zI er,zI v,zE,zN]):=Lh (AX.new w _ _);have a:Hid (Au w (w.alloc (.cells #[zI 3,zU ch,zI seq,zO,zO,zO,zO,zN,zI er,zI v,zE,zN] 104))):=Lh ((Aa _ w).alloc _);obtain⟨g,i⟩:∃ g,g=Fg ch seq er v:=⟨_,rfl⟩
 rw[<- i] at j m p;have E:=Lh i;clear u I i f r;obtain⟨l,h⟩:∃ l,l=Dy g:=⟨_,rfl⟩
 rw[<- h] at m p;have k:=Lh h;clear h;go_in;go_upto_region 1 with(fail)
 generalize w.alloc (.cells #[zI 3,zU ch,zI seq,zO,zO,zO,zO,zN,zI er,zI v,zE,zN] 104)=M at b a ⊢;go_upto_region 3 with(first
  |(refine AA rfl (.tmp 1) rfl rfl b.out Tryz.underlying104 rfl BM ?_)
  |(go_at_call 115;refine(D.out _ a.out).mono ?_;rintro q c ⟨rfl,d⟩;replace b:=Lh (b.out.Ab d id);replace a:=Lh (a.out.to d);clear d))
 have e:Hid (BK (c.alloc (.cells #[zO,zN] 175)) c.heap.size c.heap.size []):=Lh (BK.new c);have z:w.heap.size<=c.heap.size:=a.out.size;replace b:=Lh (b.out.alloc (.cells #[zO,zN] 175));replace a:=Lh (a.out.alloc (.cells #[zO,zN] 175));go_upto_region 4 with(fail)
 generalize c.alloc (.cells #[zO,zN] 175)=N at b a e ⊢;obtain⟨base,t⟩:∃ base,base=c.heap.size:=⟨_,rfl⟩
 rw[<- t] at e z ⊢;clear t;go_wp2_with (first
  |(refine AA rfl (.tmp 1) rfl rfl b.out Tryz.underlying104 rfl BM ?_)
  |(go_at_call 116;refine(j.out _ _ _ e.out a.out z).mono ?_;rintro q O ⟨rfl,s,d⟩;replace a:=Lh (a.out.AJ d fun L K H=>by(have:=BO.ge (AY _) H;omega));replace e:=Lh s;clear d s)
  |(go_at_call 73;refine(Je e.out).mono ?_;rintro q P ⟨rfl,rfl⟩;rw[<- k.out]))
 go_ret2;exact⟨by rw[<- E.out,<- k.out];rfl,a.out⟩
theorem VT (ch seq er v:Int) (w:Bc) (e:Ey ch) (c:ch/8192=2) (i:0<=seq) (hs1:seq<=1000) (g:0<=er) (h:er<=100) (j:0<=v) (k:v<=1000000) :
  Calls Tryz.prog 141 #[.agg #[zI 3,zU ch,zI seq,zO,zO,zO,zO,zN,zI er,zI v,zE,zN]] w (Rt (.bool true) (Au w)):=by
 have f:=Lh fun W (m:Au w W)=>M8 ch seq er v W e c i hs1 g h j k
 have b:Hid (AX (w.alloc (.cells #[zI 3,zU ch,zI seq,zO,zO,zO,zO,zN,zI er,zI v,zE,zN] 104)) w.heap.size 104 #[zI 3,zU ch,zI seq,zO,zO,zO,zO,zN,zI er,zI v,zE,zN]):=Lh (AX.new w _ _);have a:Hid (Au w (w.alloc (.cells #[zI 3,zU ch,zI seq,zO,zO,zO,zO,zN,zI er,zI v,zE,zN] 104))):=Lh ((Aa _ w).alloc _);clear e c;go_in;go_upto_region 1 with(fail)
 generalize w.alloc (.cells #[zI 3,zU ch,zI seq,zO,zO,zO,zO,zN,zI er,zI v,zE,zN] 104)=n at b a ⊢;go_wp2_with (first
  |(refine AA rfl (.tmp 1) rfl rfl b.out Tryz.underlying104 rfl BM ?_)
  |(go_at_call 63;refine(f.out _ a.out).mono ?_;rintro l o ⟨rfl,d⟩;replace a:=Lh (a.out.to d);clear d))
 go_ret;exact⟨rfl,a.out⟩
theorem Rj (ch seq op arg:Int) (w:Bc) (l:Ey ch) (i:ch/8192=2) (y:0<=seq) (hs1:seq<=1000) (ha:G8 op arg) :
  Calls Tryz.prog 66 #[.agg #[zI 2,zU ch,zI seq,zO,zI op,zI arg,zO,zN,zO,zO,zE,zN]] w (Rt (.tuple #[.agg #[zU ch,zO,zI seq,.string (Dy (F8 ch seq op arg))],zO]) (Au w)):=by
 have h:=Lh fun W=>NQ ch seq op arg W l i y hs1 ha
 have a:Hid (AX ((w.alloc (.cells #[zI 2,zU ch,zI seq,zO,zI op,zI arg,zO,zN,zO,zO,zE,zN] 104)).alloc (.cells #[zU 0,zO,zO,zE] 159)) w.heap.size 104 #[zI 2,zU ch,zI seq,zO,zI op,zI arg,zO,zN,zO,zO,zE,zN]):=Lh ((AX.new w _ _).alloc _);have b:Hid (AX ((w.alloc (.cells #[zI 2,zU ch,zI seq,zO,zI op,zI arg,zO,zN,zO,zO,zE,zN] 104)).alloc (.cells #[zU 0,zO,zO,zE] 159)) (w.heap.size+1) 159 #[zU 0,zO,zO,zE]):=Lh (AX.at_ _ _ (by simp));have d:Hid (Au w ((w.alloc (.cells #[zI 2,zU ch,zI seq,zO,zI op,zI arg,zO,zN,zO,zO,zE,zN] 104)).alloc (.cells #[zU 0,zO,zO,zE] 159))):=Lh (((Aa _ w).alloc _).alloc _);clear l i ha;obtain⟨e,j⟩:∃ e,e=Dy (F8 ch seq op arg):=⟨_,rfl⟩
 rw[<- j] at h ⊢;clear j;go_in;go_upto_region 1 with(fail)
 generalize (w.alloc (.cells #[zI 2,zU ch,zI seq,zO,zI op,zI arg,zO,zN,zO,zO,zE,zN] 104)).alloc (.cells #[zU 0,zO,zO,zE] 159)=D at a b d ⊢;obtain⟨B,f⟩:∃ g,g=w.heap.size:=⟨_,rfl⟩
 rw[<- f] at a b ⊢;have s:=Lh f;clear f;obtain⟨A,k⟩:∃ g,g=B+1:=⟨_,rfl⟩
 rw[<- k] at b ⊢;have r:Hid (w.heap.size<=A):=Lh (by have:=s.out;omega);clear k;have m:=a.out.cell 0;have n:=a.out.cell 1;have o:=a.out.cell 2;go_wp2_with (first
  |(refine AA rfl (.tmp 1) rfl rfl a.out Tryz.underlying104 rfl BM ?_)
  |(go_at_call 63;refine(h.out _).mono ?_;rintro t E ⟨rfl,c⟩;replace a:=Lh (a.out.Ab c id);replace b:=Lh (b.out.Ab c id);replace d:=Lh (d.out.to c);clear c m n o;have m:=a.out.cell 0;have n:=a.out.cell 1;have o:=a.out.cell 2)
  |(refine Bo rfl (.tmp 2) (.tmp 34) rfl rfl (cs':=#[zU ch,zO,zI seq,.string e]) rfl b.out K8 rfl (by simp[Value.oneCell']) ?_;intro F u x z;clear z))
 refine bodyPost_ret (v:=.tuple #[.agg #[zU ch,zO,zI seq,.string e],zO]) (CB (p:=2) (q:=3) Tryz.results66 _ rfl rfl u Tryz.underlying159 rfl K8) rfl ?_;exact⟨rfl,d.out.AJ x fun C c t=>by have:=r.out;omega⟩
theorem PU (ch seq er v:Int) (w:Bc) (l:Ey ch) (i:ch/8192=2) (A:0<=seq) (hs1:seq<=1000) (y:0<=er) (z:er<=100) (C:0<=v) (D:v<=1000000) :
  Calls Tryz.prog 66 #[.agg #[zI 3,zU ch,zI seq,zO,zO,zO,zO,zN,zI er,zI v,zE,zN]] w (Rt (.tuple #[.agg #[zU ch,zI 1,zI seq,.string (Dy (Fg ch seq er v))],zO]) (Au w)):=by
 have h:=Lh fun W=>M8 ch seq er v W l i A hs1 y z C D
 have a:Hid (AX ((w.alloc (.cells #[zI 3,zU ch,zI seq,zO,zO,zO,zO,zN,zI er,zI v,zE,zN] 104)).alloc (.cells #[zU 0,zO,zO,zE] 159)) w.heap.size 104 #[zI 3,zU ch,zI seq,zO,zO,zO,zO,zN,zI er,zI v,zE,zN]):=Lh ((AX.new w _ _).alloc _);have b:Hid (AX ((w.alloc (.cells #[zI 3,zU ch,zI seq,zO,zO,zO,zO,zN,zI er,zI v,zE,zN] 104)).alloc (.cells #[zU 0,zO,zO,zE] 159)) (w.heap.size+1) 159 #[zU 0,zO,zO,zE]):=Lh (AX.at_ _ _ (by simp));have d:Hid (Au w ((w.alloc (.cells #[zI 3,zU ch,zI seq,zO,zO,zO,zO,zN,zI er,zI v,zE,zN] 104)).alloc (.cells #[zU 0,zO,zO,zE] 159))):=Lh (((Aa _ w).alloc _).alloc _);clear l i;obtain⟨e,j⟩:∃ e,e=Dy (Fg ch seq er v):=⟨_,rfl⟩
 rw[<- j] at h ⊢;clear j;go_in;go_upto_region 1 with(fail)
 generalize (w.alloc (.cells #[zI 3,zU ch,zI seq,zO,zO,zO,zO,zN,zI er,zI v,zE,zN] 104)).alloc (.cells #[zU 0,zO,zO,zE] 159)=H at a b d ⊢;obtain⟨F,f⟩:∃ g,g=w.heap.size:=⟨_,rfl⟩
 rw[<- f] at a b ⊢;have s:=Lh f;clear f;obtain⟨E,k⟩:∃ g,g=F+1:=⟨_,rfl⟩
 rw[<- k] at b ⊢;have r:Hid (w.heap.size<=E):=Lh (by have:=s.out;omega);clear k;have m:=a.out.cell 0;have n:=a.out.cell 1;have o:=a.out.cell 2;go_wp2_with (first
  |(refine AA rfl (.tmp 1) rfl rfl a.out Tryz.underlying104 rfl BM ?_)
  |(go_at_call 63;refine(h.out _).mono ?_;rintro t I ⟨rfl,c⟩;replace a:=Lh (a.out.Ab c id);replace b:=Lh (b.out.Ab c id);replace d:=Lh (d.out.to c);clear c m n o;have m:=a.out.cell 0;have n:=a.out.cell 1;have o:=a.out.cell 2)
  |(refine Bo rfl (.tmp 2) (.tmp 34) rfl rfl (cs':=#[zU ch,zI 1,zI seq,.string e]) rfl b.out K8 rfl (by simp[Value.oneCell']) ?_;intro J u x B;clear B))
 refine bodyPost_ret (v:=.tuple #[.agg #[zU ch,zI 1,zI seq,.string e],zO]) (CB (p:=2) (q:=3) Tryz.results66 _ rfl rfl u Tryz.underlying159 rfl K8) rfl ?_;exact⟨rfl,d.out.AJ x fun G c t=>by have:=r.out;omega⟩
end

end Go.Proofs.YtcjcndnjpedniaaGreat
