/- A part of the proof of TopUsers. -/
import Derived.Test.YtcjcndnjpedniaaGreatB24
namespace Go.Proofs.YtcjcndnjpedniaaGreat
set_option linter.all false
set_option maxRecDepth 100000
set_option maxHeartbeats 8000000
open Go.RowKit
def RD (roots:List Dj) (C:List Ca) (f cs:List BB) (b:Nat) (e:Int):Prop :=
 (EF f cs=true/\e=1)∨(EF f cs=false /\
  ((∃ a,KM roots C a/\(∀ d c,C[d]?= some c->d∉a->¬Oj (Cz roots C a) c)/\SQ (Cz roots C a) f cs b e) ∨
   (e=2/\∃ (a:List Nat) (d:Nat) (c:Ca) (g:BB),KM roots C a/\C[d]?= some c/\g∈c.Bl/\JK (Cz roots C a) g b)))
def fJ (w:Bc) (roots:List Dj) (C:List Ca) (i cs:List BB) (b:Nat) (e:Ending) (w':Bc):Prop :=
 (∃ a f h c g d,e= .returned (.tuple #[.agg #[zI a,zI f,.bool h,.slice c g d],zO])/\RD roots C i cs b a)/\Au w w'
theorem K6:(Tryz.prog.info? 377).map (·.size)=some 4:=by kernel_rfl
section
variable {w W W':Bc} {roots:List Dj} {b:Nat}
theorem QE {Z:List Ed} (b:∀ z∈Z,Cn z.c) (j:∀ r∈roots,r.BX.size<=16/\r.Kn.size<=16) (e:List Nat):∀ r∈Cz roots (Z.map (·.c)) e,r.BX.size<=16/\r.Kn.size<=16:=fun r i=>by
 rcases Jt i with a|⟨l,_,k,g,a⟩
 ·exact j r a
 ·obtain⟨z,d,rfl⟩:=Bp.1 (Bn g);obtain⟨f,h,rfl⟩:=Bp.1 a;exact⟨(b z d).fo f h,(b z d).sp⟩
theorem UB {Z:List Ed} {a:List Nat} (g:roots.length+Hg Z<=400) (d:KM roots (Z.map (·.c)) a):(Cz roots (Z.map (·.c)) a).length<=400:=by
 have:=OA d;rw[Gs] at this;have f:Hg Z=(Z.map ((fun b:Ca=>b.Bl.length) ∘ fun e=>e.c)).sum:=rfl;omega
theorem V7 (K E:Option Addr) (ae y:Addr) (bh am Y n t c k:Nat) (op:Int) (h cs:List BB) (Z:List Ed) (w:Bc) (aw:0<=op) (ax:op<8) (al:D9 h=true) (g:D9 cs=true) (eo:∀ z∈Z,Cn z.c) (bb:Z.length<=100) (aj:Dt w K Z) (ah:roots.length+Hg Z<=400) (ay:1<=b) (az:b<=5000)
  (bc:∀ r∈roots,r.BX.size<=16/\r.Kn.size<=16) (cg:Ay FH w w.heap.size 2 (some ae) roots) (bd:Ay Value.string w w.heap.size 1 (some y) h) (ak:Ay Value.string w w.heap.size 1 E cs)
  (H:n<w.heap.size) (ca:Cl w n t (zI op)) (cb:Cl w n (t+1) (.slice (some y) h.length k)) :
  Calls Tryz.prog 256 #[.slice (some ae) roots.length bh,.slice K Z.length am,zS n t 1 c,zI op,.slice E cs.length Y,zI (b:Int)] w (fJ w roots (Z.map (·.c)) h cs b):=by
 have bf:∀ W,Au w W->Cl W n t (zI op):=fun W a=>(a.cell (p:=zA n t) H id).trans ca
 have bg:∀ W,Au w W->Cl W n (t+1) (.slice (some y) h.length k):=fun W a=>(a.cell (p:=zA n (t+1)) H id).trans cb
 have bm:=Lh fun W (a:Au w W)=>aV K E am Y n t c k op y h cs Z W aw ax al g eo bb (aj.AB a) (bd.AB a) (ak.AB a) (Bj H a.size) (bf W a) (bg W a)
 have cm:=Lh fun W=>mO op W aw ax
 have co:Hid (∀ W,Au w W->Calls Tryz.prog 274 #[zS n t 1 c,zI op,.slice E cs.length Y] W fun em aa=>∃ q,em= .returned (.tuple #[zI q,.bool (EF h cs)])/\Au W aa):=Lh fun W a=>(Y6 op (some y) E k Y n t c h cs W al g (bd.AB a) (ak.AB a) (Bj H a.size) (bf W a) (bg W a)).mono fun em aa Q=>⟨_,Q.1,Q.2⟩
 have aq:=Lh fun W (a:Au w W)=>jQ K ae am bh roots Z W eo bb (aj.AB a) ah ay az bc (cg.AB a)
 have bl:=Lh fun W (a:Au w W) (u P O:Nat) (J:Option Addr) (X:Nat) (B:KL W u P O 0 op J X h) (l:List Nat) (ep:KM roots (Z.map (·.c)) l) (j:Option Addr) (m:Nat) (dh:Ay FH W W.heap.size 2 j (Cz roots (Z.map (·.c)) l)) =>
  gI (R:=Cz roots (Z.map (·.c)) l) u P O 0 op J X h j E m Y b cs W B aw ax al g (UB ah ep) (QE eo bc l) ay az dh (ak.AB a) |>.mono fun em aa (Q:nO (Cz roots (Z.map (·.c)) l) h cs b em/\Au W aa)=>show(∃ G q,em= .returned (.tuple #[zI G,zI q,zO])/\SQ (Cz roots (Z.map (·.c)) l) h cs b G)/\Au W aa from⟨by obtain⟨⟨y,hF,dj⟩,_⟩:=Q;exact⟨y,_,dj,hF⟩,Q.2⟩
 have cz:=Lh aj;have bq:=Lh ah;obtain⟨o,U⟩:∃ o,o=Z.length:=⟨_,rfl⟩
 obtain⟨an,ai⟩:∃ o,o=roots.length:=⟨_,rfl⟩
 have cx:=Lh U;have br:=Lh ai;have ee:(o:Int)<=100:=by omega
 have dz:decide ((b:Int)<1)=false:=by rw[Ag];omega
 have ea:decide ((5000:Int)<(b:Int))=false:=by rw[Ag];omega
 rw[<- U,<- ai];rw[<- U] at bm;rw[<- U,<- ai] at aq;obtain⟨C,hC⟩:∃ C,C=Z.map (·.c):=⟨_,rfl⟩
 rw[<- hC] at bl ⊢;have cn:Hid (∀ W,Au w W->Calls Tryz.prog 275 #[.slice (some ae) an bh,.slice K o am,zI (b:Int)] W (oK W roots C b)):=Lh fun W a=>by rw[hC];exact aq.out W a
 have M:Hid (AX (w.alloc (.cells #[zO,zO,.bool false,zN] 377)) w.heap.size 377 #[zO,zO,.bool false,zN]):=Lh (AX.new w _ _);have L:Hid (Au w (w.alloc (.cells #[zO,zO,.bool false,zN] 377))):=Lh ((Aa _ w).alloc _);clear al g eo bb aj ah ay az bc cg bd ak ca cb U ai hC bf bg aq;go_in;go_upto_region 1 with(fail)
 obtain⟨dr,be⟩:∃ x,x=w.heap.size:=⟨_,rfl⟩
 have av:=Lh be;generalize w.alloc (.cells #[zO,zO,.bool false,zN] 377)=ei at M L ⊢;rw[<- be] at M ⊢;clear be;go_upto_region 4 with(go_at_call 272;refine(bm.out _ L.out).mono ?_;rintro em ej ⟨⟨u,P,O,J,X,rfl,B⟩,e⟩;have cr:=Lh B;replace M:=Lh (M.out.Ab e id);replace L:=Lh (L.out.to e);clear e B)
 go_upto_region 7 with(go_at_call 273;refine(cm.out _).mono ?_;rintro em ek ⟨rfl,rfl⟩)
 go_wp2;go_loopg [16,51] o fun gk s i wr=>∃ d p:Nat,d+gk=o/\i=zI d/\s=zI (p:Int)/\Hid (p=an+Hg (Z.take d))/\Hid (Au w wr)/\Hid (KL wr u P O 0 op J X h)/\Hid (AX wr dr 377 #[zO,zO,.bool false,zN])
 case atStart=>exact⟨0,an,by omega,rfl,rfl,Lh (by simp[Hg]),L,cr,M⟩
 case round =>
  obtain⟨d,p,ec,rfl,rfl,bs,a,B,bx⟩:=hrel;have ef:(p:Int)<=400:=by have:=bs.out;have:=bq.out;have:=Na (Z:=Z) (j:=d);have:=br.out;omega
  by_cases ed:d<o
  ·have ba:d<Z.length:=by have:=cx.out;omega
   obtain⟨A,D,rfl,H,g⟩:=(cz.out.AB a.out).cells ba;obtain⟨z,eo⟩:∃ z,z=Z[d]:=⟨_,rfl⟩
   have dc:Hid (Z.take (d+1)=Z.take d++[z]):=Lh (by rw[AP ba,eo]);rw[<- eo] at g;have dm:(d:Int)<(o:Int):=by omega
   have dt:Cl wr A (D+d*7) (zI z.c.kind):=g 0 (by omega);have du:Cl wr A (D+d*7+1) (zU z.c.Aq):=g 1 (by omega);have af:Cl wr A (D+d*7+2) (.string z.c.Ad):=g 2 (by omega);have dv:Cl wr A (D+d*7+3) (.slice z.A z.c.Bl.length z.k):=g 3 (by omega);have dw:Cl wr A (D+d*7+4) (zI z.c.BX):=g 4 (by omega);have dx:Cl wr A (D+d*7+5) (zI z.c.till):=g 5 (by omega);have dy:Cl wr A (D+d*7+6) (zI z.c.AO):=g 6 (by omega);clear eo g H ba;have f:=(T0 wr).alloc (.cells (Cu z.c z.A z.k) 31);have dg:=Lh (a.out.to f);have hA2:=Lh (B.out.AB f);have di:=Lh (bx.out.Ab f id);have bt:Hid (p+z.c.Bl.length=an+Hg (Z.take (d+1))):=Lh (by rw[PE dc.out];have:=bs.out;omega);have eg:(p:Int)+(z.c.Bl.length:Int)<=400:=by have:=bt.out;have:=bq.out;have:=br.out;have:=Na (Z:=Z) (j:=d+1);omega
   clear f;go_wp2;go_roundg (gk-1)
   case measure=>omega
   case rel=>exact⟨d+1,p+z.c.Bl.length,by omega,by go_num,by go_num,bt,dg,hA2,di⟩
  ·have dm:¬(d:Int)<(o:Int):=by omega
   have eb:decide ((400:Int)<(p:Int))=false:=by rw[Ag];omega
   have bn:=Lh (co.out wr a.out);generalize ci:EF h cs=dq at bn;have au:=Lh ci;clear ci;go_upto_region 15 with(go_at_call 274;refine bn.out.mono ?_;rintro em el ⟨q,rfl,e⟩;have ar:=Lh (a.out.to e);have cp:=Lh (B.out.AB e);have bv:=Lh (bx.out.Ab e id);clear e)
   rcases dq with _|_
   ·go_upto_region 18 with(go_at_call 275;refine(cn.out _ ar.out).mono ?_;rintro em I ⟨dk,e⟩;have bp:=Lh (ar.out.to e);have cq:=Lh (cp.out.AB e);have bw:=Lh (bv.out.Ab e id);clear e;(rcases dk with⟨l,j,m,ao,bi,af,rfl,cf,ep,cc⟩|⟨l,df,de,s,rfl,ep,bz,ch,cd⟩))
    ·have ac:=Lh ep;have cv:=Lh cc;have da:=Lh cf;clear ep cc cf;go_upto_region 18 with(fail)
     obtain⟨en,ag⟩:∃ en,en=(Cz roots C l).length:=⟨_,rfl⟩
     have ds:=Lh ag;rw[<- ag];have f:=(T0 I).alloc (.cells #[.slice ao bi af,.slice j en m] 397);have ad:=Lh (AX.new I 397 #[.slice ao bi af,.slice j en m]);have F:=Lh (bp.out.to f);have bo:=Lh (cq.out.AB f);have N:=Lh (bw.out.Ab f id);have bu:=Lh (da.out.AB f);have ap:=Lh (bl.out _ F.out u P O J X bo.out l ac.out j m bu.out);clear f;generalize I.alloc (.cells #[.slice ao bi af,.slice j en m] 397)=ck at ad F bo N bu ap ⊢;obtain⟨cj,ce⟩:∃ x,x=I.heap.size:=⟨_,rfl⟩
     rw[<- ce] at ad ⊢;rw[<- ag] at ap;clear ce ag;have dn:Cl ck cj 1 (.slice j en m):=ad.out.cell 1;go_upto_region 23 with(go_at_call 276;refine ap.out.mono ?_;rintro em dp ⟨⟨G,q,rfl,hF⟩,e⟩;have cu:=Lh hF;have cw:=Lh (F.out.to e);have dd:=Lh (N.out.Ab e id);have eh:Cl dp cj 1 (.slice j en m):=(ad.out.Ab e id).cell 1;clear e hF dn)
     go_wp2_with (refine Bo rfl (.tmp 12) (.tmp 107) rfl rfl (cs':=#[zI G,zI q,.bool false,.slice j en m]) rfl dd.out K6 rfl (by simp[Value.oneCell']) ?_;intro cl S T V;clear V);refine bodyPost_ret (v:=.tuple #[.agg #[zI G,zI q,.bool false,.slice j en m],zO]) (CB (p:=12) (q:=13) Tryz.results256 _ rfl rfl S Tryz.underlying377 rfl K6) rfl ?_;exact⟨⟨G,q,false,j,en,m,rfl,.inr ⟨au.out,.inl ⟨l,ac.out,cv.out,cu.out⟩⟩⟩,cw.out.AJ T fun k e em=>by have:=av.out;omega⟩
    ·have ac:=Lh ep;have cy:=Lh cd;have ct:=Lh bz;have db:=Lh ch;clear ep cd bz ch;go_upto_region 18 with(fail)
     have f:=(T0 I).alloc (.cells #[zN,zN] 397);have F:=Lh (bp.out.to f);have N:=Lh (bw.out.Ab f id);clear f;generalize I.alloc (.cells #[zN,zN] 397)=ck at F N ⊢;go_wp2_with (refine Bo rfl (.tmp 12) (.tmp 83) rfl rfl (cs':=#[zI 2,zO,.bool false,zN]) rfl N.out K6 rfl (by simp[Value.oneCell']) ?_;intro cl S T V;clear V);refine bodyPost_ret (v:=.tuple #[.agg #[zI 2,zO,.bool false,zN],zO]) (CB (p:=12) (q:=13) Tryz.results256 _ rfl rfl S Tryz.underlying377 rfl K6) rfl ?_;exact⟨⟨2,0,false,none,0,0,rfl,.inr ⟨au.out,.inr ⟨rfl,l,df,de,s,ac.out,ct.out,db.out,cy.out⟩⟩⟩,F.out.AJ T fun k e em=>by have:=av.out;omega⟩
   ·go_wp2_with (refine Bo rfl (.tmp 12) (.tmp 73) rfl rfl (cs':=#[zI 1,zI q,.bool true,zN]) rfl bv.out K6 rfl (by simp[Value.oneCell']) ?_;intro cl S T V;clear V);refine bodyPost_ret (v:=.tuple #[.agg #[zI 1,zI q,.bool true,zN],zO]) (CB (p:=12) (q:=13) Tryz.results256 _ rfl rfl S Tryz.underlying377 rfl K6) rfl ?_;exact⟨⟨1,q,true,none,0,0,rfl,.inl ⟨au.out,rfl⟩⟩,ar.out.AJ T fun k e em=>by have:=av.out;omega⟩
theorem TA (i h:Option Addr) (l j:Addr) (E F D d g c k:Nat) (op:Int) (f cs:List BB) (Z:List Ed) (w:Bc) (L:0<=op) (M:op<8) (B:D9 f=true) (n:D9 cs=true) (C:∀ z∈Z,Cn z.c) (s:Z.length<=100) (u:Dt w i Z) (t:roots.length+Hg Z<=400) (O:1<=b) (P:b<=5000)
  (y:∀ r∈roots,r.BX.size<=16/\r.Kn.size<=16) (x:Ay FH w w.heap.size 2 (some l) roots) (A:Ay Value.string w w.heap.size 1 (some j) f) (v:Ay Value.string w w.heap.size 1 h cs)
  (N:d<w.heap.size) (o:Cl w d g (zI op)) (p:Cl w d (g+1) (.slice (some j) f.length k)) :
  Calls Tryz.prog 219 #[.slice (some l) roots.length E,.slice i Z.length F,zS d g 1 c,zI op,.slice h cs.length D,zI (b:Int)] w fun e w'=>(∃ a,e= .returned (.tuple #[zI a,zO])/\RD roots (Z.map (·.c)) f cs b a)/\Au w w':=by
 have H:=Lh (V7 i h l j E F D d g c k op f cs Z w L M B n C s u t O P y x A v N o p);clear B n C s u t y x A v o p;go_in;go_wp2_with (go_at_call 256;refine H.out.mono ?_;rintro e T ⟨⟨a,R,S,G,Q,K,rfl,m⟩,q⟩;have I:=Lh m;have J:=Lh (q.alloc (.cells #[zI a,zI R,.bool S,.slice G Q K] 377));clear q m);go_ret2;exact⟨⟨a,rfl,I.out⟩,J.out⟩
end

structure MQ where
 A:Option Addr
 n:Nat
 c:Nat
 L:List Int
def Hw (x:MQ):Value:=.slice x.A x.n x.c
def fZ (Z:List Ed) (i:Int):Option Ed:=if 0<=i then Z[i.toNat]? else none
structure Ia (W:Bc) (base s nb bb wb:Nat) (room:Int) (Z:List Ed) (fb:BB->Option Int) (fw:BB->Option MQ):Prop where
 BR:AX W s 239 #[zI room,zI (Z.length:Int),zI (Z.length:Int),.map (some nb),.map (some bb),.map (some wb)]
 nums:GI W 3 nb (Value.int .i64) Gy i64 (fZ Z)
 bytes:GI W 9 bb Value.string (Value.int .i64) Mk fb
 words:GI W 27 wb Value.string Hw Mk fw
 ne:nb≠bb/\nb≠wb/\bb≠wb
 pW:∀ (i:Nat) z,Z[i]?= some z->fb (Dy (Db z.c))=some (i:Int)
 pX:∀ b i,fb b=some i->∃ (j:Nat) (z:Ed),i=j/\Z[j]?= some z/\Dy (Db z.c)=b
 rows:∀ v x,fw v=some x->W.ownsRow base 3 1 (Hw x) x.n (x.L.map (Value.int .i64))/\x.n<=16*Z.length
 inj:∀ u v x y g,fw u=some x->fw v=some y->u≠v->(Hw x).ownBlock=some g->(Hw y).ownBlock≠some g
 Bl:∀ z∈Z,W.ownsRow base 27 1 (.slice z.A z.c.Bl.length z.k) z.c.Bl.length (z.c.Bl.map Value.string)
 ok:∀ z∈Z,Cn z.c
 ge:base<=s/\base<=nb/\base<=bb/\base<=wb
def Gt (s nb bb wb:Nat) (Z:List Ed) (fw:BB->Option MQ) (k:Nat):Prop :=
 k=s∨k=nb∨k=bb∨k=wb∨(∃ c b,fw c=some b/\(Hw b).ownBlock=some k)∨∃ a∈Z,(Value.slice a.A a.c.Bl.length a.k).ownBlock=some k
def FN (W:Bc) (F:Nat->Prop) (base s:Nat) (room:Int) (Z:List Ed):Prop :=
 ∃ nb bb wb fb fw,Ia W base s nb bb wb room Z fb fw/\∀ a,Gt s nb bb wb Z fw a->F a
section
variable {W W':Bc} {base s nb bb wb:Nat} {room:Int} {Z:List Ed} {fb:BB->Option Int} {fw:BB->Option MQ} {F:Nat->Prop}
theorem Ia.Ab {S:Nat->Prop} (a:Ia W base s nb bb wb room Z fb fw) (c:Am S W W') (b:∀ k,Gt s nb bb wb Z fw k->¬S k):Ia W' base s nb bb wb room Z fb fw where
 BR:=a.BR.Ab c (b _ (.inl rfl))
 nums:=a.nums.Ab c (b _ (.inr (.inl rfl)))
 bytes:=a.bytes.Ab c (b _ (.inr (.inr (.inl rfl))))
 words:=a.words.Ab c (b _ (.inr (.inr (.inr (.inl rfl)))))
 ne:=a.ne
 pW:=a.pW
 pX:=a.pX
 rows:=fun f g hx=>⟨Aj (a.rows f g hx).1 c fun d e=>b d (.inr (.inr (.inr (.inr (.inl ⟨f,g,hx,e⟩))))),(a.rows f g hx).2⟩
 inj:=a.inj
 Bl:=fun i h=>Aj (a.Bl i h) c fun d e=>b d (.inr (.inr (.inr (.inr (.inr ⟨i,h,e⟩)))))
 ok:=a.ok
 ge:=a.ge
theorem Ia.AB (a:Ia W base s nb bb wb room Z fb fw) (b:Au W W'):Ia W' base s nb bb wb room Z fb fw:=a.Ab b fun _ _ a=>a
theorem FN.Ab {S:Nat->Prop} (b:FN W F base s room Z) (e:Am S W W') (d:∀ k,F k->¬S k):FN W' F base s room Z:=by
 obtain⟨nb,bb,wb,fb,fw,c,a⟩:=b;exact⟨nb,bb,wb,fb,fw,c.Ab e fun k f=>d k (a k f),a⟩
theorem FN.AB (a:FN W F base s room Z) (b:Au W W'):FN W' F base s room Z:=a.Ab b fun _ _ a=>a
theorem FN.mono {a:Nat->Prop} (b:FN W F base s room Z) (hF:∀ k,F k->a k):FN W a base s room Z:=by
 obtain⟨nb,bb,wb,fb,fw,c,d⟩:=b;exact⟨nb,bb,wb,fb,fw,c,fun k e=>hF k (d k e)⟩
theorem WT {i:Nat}:fZ Z (i:Int)=Z[i]?:=by
 unfold fZ;rw[AQ (by omega)];rfl
theorem YF (w:Bc) (m:Int):FN (IV w m) (fun k=>w.heap.size<=k/\k<(IV w m).heap.size) w.heap.size (w.heap.size+3) m []:=by
 have c:=UI w m;have l:(IV w m).heap.size=w.heap.size+4:=by simp[IV]
 refine⟨w.heap.size,w.heap.size+1,w.heap.size+2,fun _=>none,fun _=>none,⟨Ww w m,?_,?_,?_,by omega,fun n d a=>by simp at a,fun o n a=>(by cases a),fun h i a=>(by cases a),fun q h i r p a=>(by cases a),fun d a=>(by cases a),fun d a=>(by cases a),by omega⟩,fun k j=>?_⟩
 ·exact⟨[],⟨#[],0,c.1,MapKept.stamped_empty 0,rfl,by simp⟩,fun g b=>(by cases b),fun f e _ a=>by unfold fZ at a;split at a<;>simp at a⟩
 ·exact⟨[],⟨#[],0,c.2.1,MapKept.stamped_empty 0,rfl,by simp⟩,fun g b=>(by cases b),fun f e _ a=>(by cases a)⟩
 ·exact⟨[],⟨#[],0,c.2.2,MapKept.stamped_empty 0,rfl,by simp⟩,fun g b=>(by cases b),fun f e _ a=>(by cases a)⟩
 ·rw[l];rcases j with rfl|rfl|rfl|rfl|⟨h,i,a,_⟩|⟨d,a,_⟩
  ·omega
  ·omega
  ·omega
  ·omega
  ·cases a
  ·cases a
end

structure Fu (W:Bc) (base s nb bb wb:Nat) (cs:Array Value) (fn:Int->Option Ed) (fb:BB->Option Int) (fw:BB->Option MQ) (Z:List Ed) (B:Nat):Prop where
 BR:AX W s 239 cs
 nums:GI W 3 nb (Value.int .i64) Gy i64 fn
 bytes:GI W 9 bb Value.string (Value.int .i64) Mk fb
 words:GI W 27 wb Value.string Hw Mk fw
 rows:∀ v x,fw v=some x->W.ownsRow base 3 1 (Hw x) x.n (x.L.map (Value.int .i64))/\x.n<=B
 inj:∀ u v x y g,fw u=some x->fw v=some y->u≠v->(Hw x).ownBlock=some g->(Hw y).ownBlock≠some g
 Bl:∀ z∈Z,W.ownsRow base 27 1 (.slice z.A z.c.Bl.length z.k) z.c.Bl.length (z.c.Bl.map Value.string)
section
variable {W W' W2:Bc} {base s nb bb wb:Nat} {cs:Array Value} {fn:Int->Option Ed} {room:Int} {Z:List Ed} {fb:BB->Option Int} {fw:BB->Option MQ} {B:Nat}
theorem Ia.m (a:Ia W base s nb bb wb room Z fb fw):Fu W base s nb bb wb #[zI room,zI (Z.length:Int),zI (Z.length:Int),.map (some nb),.map (some bb),.map (some wb)] (fZ Z) fb fw Z (16*Z.length) :=
 ⟨a.BR,a.nums,a.bytes,a.words,a.rows,a.inj,a.Bl⟩
theorem Fu.Ab {S:Nat->Prop} (a:Fu W base s nb bb wb cs fn fb fw Z B) (c:Am S W W') (b:∀ k,Gt s nb bb wb Z fw k->¬S k):Fu W' base s nb bb wb cs fn fb fw Z B where
 BR:=a.BR.Ab c (b _ (.inl rfl))
 nums:=a.nums.Ab c (b _ (.inr (.inl rfl)))
 bytes:=a.bytes.Ab c (b _ (.inr (.inr (.inl rfl))))
 words:=a.words.Ab c (b _ (.inr (.inr (.inr (.inl rfl)))))
 rows:=fun f g hx=>⟨Aj (a.rows f g hx).1 c fun d e=>b d (.inr (.inr (.inr (.inr (.inl ⟨f,g,hx,e⟩))))),(a.rows f g hx).2⟩
 inj:=a.inj
 Bl:=fun i h=>Aj (a.Bl i h) c fun d e=>b d (.inr (.inr (.inr (.inr (.inr ⟨i,h,e⟩)))))
theorem Fu.AB (a:Fu W base s nb bb wb cs fn fb fw Z B) (b:Au W W'):Fu W' base s nb bb wb cs fn fb fw Z B:=a.Ab b fun _ _ a=>a
theorem GI.own_ne {a c : Type} {d:a->Value} {V:c->Value} {ok:a->Prop} {f:a->Option c} {k e n size b:Nat} {v:Value} {xs:List Value} (g:GI W k b d V ok f) (i:W.ownsRow base e size v n xs):v.ownBlock≠some b:=by
 obtain⟨j,h,_⟩:=g;exact fun e=>h.own_ne i e
theorem Fu.aside {k:Nat} (b:Fu W base s nb bb wb cs fn fb fw Z B) (e:Am (fun i=>i=k) W W') (hk:(∀ {a size n v xs},W.ownsRow base a size v n xs->a≠239->v.ownBlock≠some k)) :
  (∀ v x,fw v=some x->W'.ownsRow base 3 1 (Hw x) x.n (x.L.map (Value.int .i64))/\x.n<=B)/\(∀ z∈Z,W'.ownsRow base 27 1 (.slice z.A z.c.Bl.length z.k) z.c.Bl.length (z.c.Bl.map Value.string)) :=
 ⟨fun v x hx=>⟨Aj (b.rows v x hx).1 e fun c d a=>hk (b.rows v x hx).1 (by decide) (by rw[d,show c=k from a]),(b.rows v x hx).2⟩,fun z f=>Aj (b.Bl z f) e fun c d a=>hk (b.Bl z f) (by decide) (by rw[d,show c=k from a])⟩
theorem Fu.set (a:Fu W base s nb bb wb cs fn fb fw Z B) (i:Nat) (v:Value):Fu (W.setCell (zA s i) v) base s nb bb wb (cs.setIfInBounds i v) fn fb fw Z B/\Am (fun k=>k=s) W (W.setCell (zA s i) v):=by
 have c:Am (fun k=>k=s) W (W.setCell (zA s i) v):=(Aa (fun k=>k=s) W).setCell (p:=zA s i) (fun _=>rfl) v;obtain⟨d,e⟩:=a.aside c fun g f b=>Ba g a.BR f b
 exact⟨⟨a.BR.Dw i v,a.nums.Ab c fun b=>a.nums.Ee a.BR b.symm,a.bytes.Ab c fun b=>a.bytes.Ee a.BR b.symm,a.words.Ab c fun b=>a.words.Ee a.BR b.symm,d,a.inj,e⟩,c⟩
theorem Fu.qW (a:Fu W base s nb bb wb cs fn fb fw Z B) (e:nb≠bb/\nb≠wb/\bb≠wb) {i:Int} (n:i64 i) (z:Ed) (f:W.ownsRow base 27 1 (.slice z.A z.c.Bl.length z.k) z.c.Bl.length (z.c.Bl.map Value.string)) :
  ∃ w2,(Instr.mapUpdate 235 (.map (some nb)) (zI i) (Gy z)).run Tryz.prog W= .ok () w2/\Fu w2 base s nb bb wb cs (Ig fn i z) fb fw (Z++[z]) B/\Am (fun k=>k=nb) W w2:=by
 obtain⟨w2,p,l,c⟩:=a.nums.put (T:=235) (e:=31) WX Tryz.underlying235 n z;obtain⟨h,j⟩:=a.aside c fun o _=>a.nums.own_ne o
 refine⟨w2,p,⟨a.BR.Ab c (a.nums.Ee a.BR),l,a.bytes.Ab c fun b=>e.1 b.symm,a.words.Ab c fun b=>e.2.1 b.symm,h,a.inj,fun q d=>?_⟩,c⟩;rcases Bd.1 d with d|d
 ·exact j q d
 ·rw[Ai.1 d];exact Aj f c fun g m b=>a.nums.own_ne f (by rw[m,show g=nb from b])
theorem Fu.qV (a:Fu W base s nb bb wb cs fn fb fw Z B) (e:nb≠bb/\nb≠wb/\bb≠wb) {b:BB} (j:Mk b) (i:Int) :
  ∃ w2,(Instr.mapUpdate 236 (.map (some bb)) (.string b) (zI i)).run Tryz.prog W= .ok () w2/\Fu w2 base s nb bb wb cs fn (Ig fb b i) fw Z B/\Am (fun k=>k=bb) W w2:=by
 obtain⟨w2,m,h,c⟩:=a.bytes.put (T:=236) (e:=3) Sa Tryz.underlying236 j i;obtain⟨f,g⟩:=a.aside c fun l _=>a.bytes.own_ne l
 exact⟨w2,m,⟨a.BR.Ab c (a.bytes.Ee a.BR),a.nums.Ab c e.1,h,a.words.Ab c fun d=>e.2.2 d.symm,f,a.inj,g⟩,c⟩
def rowOf (fw:BB->Option MQ) (v:BB):MQ:=(fw v).getD ⟨none,0,0,[]⟩
theorem Fu.row (a:Fu W base s nb bb wb cs fn fb fw Z B) (v:BB):W.ownsRow base 3 1 (Hw (rowOf fw v)) (rowOf fw v).n ((rowOf fw v).L.map (Value.int .i64))/\(rowOf fw v).n<=B:=by
 unfold rowOf;rcases b:fw v with _|c
 ·exact⟨World.ownsRow_nil _ _ _ _,EN _⟩
 ·exact a.rows v c b
theorem Lc (a:GI W 27 wb Value.string Hw Mk fw) {v:BB} (b:Mk v):(Instr.lookup 237 (.map (some wb)) (.string v) false).run Tryz.prog W= .ok (Hw (rowOf fw v)) W:=by
 unfold rowOf;rcases c:fw v with _|d
 ·exact a.JI (T:=237) (e:=205) GV Tryz.underlying237 b c (z:=zN) (by kernel_rfl) false
 ·exact a.Jc (T:=237) (e:=205) GV Tryz.underlying237 b c false
theorem Fu.add {w2:Bc} {v:BB} {g cap:Nat} {i:Int} (d:Fu W base s nb bb wb cs fn fb fw Z B) (D:nb≠bb/\nb≠wb/\bb≠wb) (R:Mk v) (m:Am (fun k=>(Hw (rowOf fw v)).ownBlock=some k) W w2)
  (O:w2.ownsRow base 3 1 (zS g 0 ((rowOf fw v).n+1) cap) ((rowOf fw v).n+1) ((rowOf fw v).L.map (Value.int .i64)++[zI i])) (z:(Hw (rowOf fw v)).ownBlock=some g∨W.heap.size<=g) :
  ∃ o y,(Instr.mapUpdate 237 (.map (some wb)) (.string v) (zS g 0 ((rowOf fw v).n+1) cap)).run Tryz.prog w2= .ok () o/\Fu o base s nb bb wb cs fn fb y Z (B+1)/\Am (Gt s nb bb wb Z fw) W o/\∀ k,Gt s nb bb wb Z y k->Gt s nb bb wb Z fw k∨W.heap.size<=k:=by
 have t:∀ k,(Hw (rowOf fw v)).ownBlock=some k->∃ c,fw v=some c/\(Hw c).ownBlock=some k:=fun k a=>by
  unfold rowOf at a;rcases C:fw v with _|c
  ·rw[C] at a;cases a
  ·rw[C] at a;exact⟨c,rfl,a⟩
 have q:=(d.row v).1;have E:∀ e f,e≠v->fw e=some f->(Hw f).ownBlock≠some g:=fun e f l h b=>by
  rcases z with r|r
  ·obtain⟨c,hx,j⟩:=t g r;exact d.inj v e c f g hx h (BZ l) j b
  ·have:=Gd (d.rows e f h).1 b;omega
 have P:∀ e f,e≠v->fw e=some f->w2.ownsRow base 3 1 (Hw f) f.n (f.L.map (Value.int .i64)):=fun e f l h=>Aj (d.rows e f h).1 m fun k a b=>by
  obtain⟨c,hx,j⟩:=t k b;exact d.inj v e c f k hx h (BZ l) j a
 have u:=d.words.Ab m (d.words.own_ne q);obtain⟨o,Q,N,p⟩:=u.put (T:=237) (e:=205) GV Tryz.underlying237 R ⟨some (zA g 0),(rowOf fw v).n+1,cap,(rowOf fw v).L++[i]⟩;have w:∀ {b I H:Nat} {v:Value} {K:List Value},w2.ownsRow base b I v H K->o.ownsRow base b I v H K:=fun F=>Aj F p fun k a b=>u.own_ne F (by rw[a,show k=wb from b])
 have A:=d.BR.Ab m (Ba q d.BR (by decide));refine⟨o,_,Q,⟨A.Ab p (u.Ee A),(d.nums.Ab m (d.nums.own_ne q)).Ab p D.2.1,(d.bytes.Ab m (d.bytes.own_ne q)).Ab p D.2.2,N,fun e c hx=>?_,fun u1 J c f k hx h x a=>?_,fun M G=>w (Aj (d.Bl M G) m fun k a b=>Ex q (d.Bl M G) (by decide) b a)⟩,?_,fun k a=>?_⟩
 ·unfold Ig at hx;split at hx
  ·injection hx with hx;subst hx;exact⟨by rw[Bw];exact w O,Nat.succ_le_succ (d.row v).2⟩
  ·rename_i l;exact⟨w (P e c l hx),Gx (d.rows e c hx).2⟩
 ·unfold Ig at hx h;split at hx
  ·rename_i l;rw[Bg fun b=>x (by rw[l,b])] at h;injection hx with hx;subst hx;cases a;exact E J f (fun b=>x (by rw[l,b])) h
  ·rename_i l;split at h
   ·injection h with h;subst h;intro b;cases b;exact E u1 c l hx a
   ·exact d.inj u1 J c f k hx h x a
 ·exact(m.mono fun k _ a=>by obtain⟨c,hx,j⟩:=t k a;exact .inr (.inr (.inr (.inr (.inl ⟨v,c,hx,j⟩))))).AJ p fun k _ b=>.inr (.inr (.inr (.inl b)))
 ·rcases a with a|a|a|a|⟨e,c,hx,j⟩|a
  ·exact .inl (.inl a)
  ·exact .inl (.inr (.inl a))
  ·exact .inl (.inr (.inr (.inl a)))
  ·exact .inl (.inr (.inr (.inr (.inl a))))
  ·unfold Ig at hx;split at hx
   ·injection hx with hx;subst hx;cases j;exact z.imp (fun r=>by obtain⟨c,hx,j⟩:=t _ r;exact .inr (.inr (.inr (.inr (.inl ⟨v,c,hx,j⟩))))) id
   ·exact .inl (.inr (.inr (.inr (.inr (.inl ⟨e,c,hx,j⟩)))))
  ·exact .inl (.inr (.inr (.inr (.inr (.inr a)))))
end

section
variable {W W' w:Bc} {base s nb bb wb:Nat} {cs:Array Value} {fn:Int->Option Ed} {room:Int} {Z:List Ed} {fb:BB->Option Int} {fw:BB->Option MQ} {B:Nat}
theorem PZ {l:List (Value × Value)} (h:Cw W Tryz.prog 3 nb l) (d:∀ p∈l,∃ (c:Int) (b:Ed),i64 c/\fZ Z c=some b/\p=(zI c,Gy b)):l.length<=Z.length:=by
 have f:(l.map Prod.fst).Nodup:=by
  have:=h.nodup;rw[List.Nodup,Gw];exact this
 have g:=Nq (C:=(List.range Z.length).map fun k:Nat=>Value.int .i64 (k:Int)) f fun m j=>by
  obtain⟨p,i,rfl⟩:=Bp.1 j;obtain⟨c,b,_,a,rfl⟩:=d p i;unfold fZ at a;split at a
  ·rename_i e;have:=(AC.1 a).1;exact Bp.2 ⟨c.toNat,FQ.2 this,by rw[Int.toNat_of_nonneg e]⟩
  ·cases a
 simpa using g
theorem JJ {i : Type} {V:i->Value} {size:Nat} {a:Addr} {xs:List i} {S:Nat->Prop} (j:Ay V W W.heap.size size (some a) xs) (e:Am S W W') (l:¬S a.block):Ay V W' W'.heap.size size (some a) xs:=fun g n=>by
 obtain⟨c,h,b,d,k⟩:=j g n;injection b with b;subst b;exact⟨c,h,rfl,Bj d e.size,fun f m=>(e.cell (p:=zA c (h+g*size+f)) d l).trans (k f m)⟩
theorem Fu.lt (a:Fu W base s nb bb wb cs fn fb fw Z B):∀ k,Gt s nb bb wb Z fw k->k<W.heap.size:=fun k c=>by
 rcases c with rfl|rfl|rfl|rfl|⟨e,f,hx,b⟩|⟨g,d,b⟩
 ·exact a.BR.lt
 ·exact a.nums.lt
 ·exact a.bytes.lt
 ·exact a.words.lt
 ·exact Gd (a.rows e f hx).1 b
 ·exact Gd (a.Bl g d) b
theorem gZ {z:Ed}:Ig (fZ Z) (Z.length:Int) z=fZ (Z++[z]):=by
 funext i;unfold Ig fZ;by_cases b:0<=i
 ·simp only[AQ b];by_cases a:i=(Z.length:Int)
  ·rw[AQ a,a];simp
  ·rw[Bg a];rcases Co i.toNat Z.length with c|c
   ·rw[Cx c]
   ·rw[En c,En (by rw[Ap];simp;omega)]
 ·rw[Bg b,Bg b,Bg (by omega)]
theorem Fu.done {o:Bc} {z:Ed} {n:Nat} {g:BB} {j:BB->Option MQ} (b:Fu W base s nb bb wb #[zI room,zI ((n:Int)+1),zI ((n:Int)+1),.map (some nb),.map (some bb),.map (some wb)] (Ig (fZ Z) (n:Int) z) (Ig fb g (n:Int)) j (Z++[z]) B) (v:n=Z.length) (y:B<=16*(n+1)) (d:Ia o base s nb bb wb room Z fb fw) (t:fb g=none) (k:Dy (Db z.c)=g) (w:Cn z.c) :
  Ia W base s nb bb wb room (Z++[z]) (Ig fb g (n:Int)) j:=by
 subst v;have u:(((Z++[z]).length:Nat):Int)=(Z.length:Int)+1:=by rw[Ap];rfl
 refine⟨by rw[u];exact b.BR,by rw[<- gZ];exact b.nums,b.bytes,b.words,d.ne,fun i f a=>?_,fun p i c=>?_,fun l m hx=>⟨(b.rows l m hx).1,by have:=(b.rows l m hx).2;rw[Ap];simp only[Cv];omega⟩,b.inj,b.Bl,fun f a=>?_,d.ge⟩
 ·unfold Ig;rcases JP.1 a with a|⟨rfl,rfl⟩
  ·have e:=d.pW i f a;rw[Bg fun h=>by rw[h,t] at e;cases e];exact e
  ·rw[AQ k]
 ·unfold Ig at c;split at c
  ·rename_i h;injection c with c;exact⟨Z.length,z,c.symm,JP.2 (.inr ⟨rfl,rfl⟩),by rw[k,h]⟩
  ·obtain⟨x,f,e,q,r⟩:=d.pX p i c;exact⟨x,f,e,JP.2 (.inl q),r⟩
 ·rcases Bd.1 a with a|a
  ·exact d.ok f a
  ·rw[Ai.1 a];exact w
def WK (F:Nat->Prop) (w w':Bc) (k:Nat):Prop:=F k∨(w.heap.size<=k/\k<w'.heap.size)
def Jw (L:List Ca) (c:Ca):List Ca:=if L.any (fun a=>decide (Dy (Db a)=Dy (Db c))) then L else L++[c]
def qI (w:Bc) (F:Nat->Prop) (base s:Nat) (room:Int) (Z:List Ed) (c:Ca) (e:Ending) (w':Bc):Prop :=
 (∃ d b,e= .returned (.tuple #[zI d,zI b]))/\∃ a,FN w' (WK F w w') base s room a/\a.map (·.c)=Jw (Z.map (·.c)) c/\Am F w w'
theorem Yq {F:Nat->Prop} (c:Ca) (fj:Addr) (k:Nat) (w:Bc) (f:FN w F base s room Z) (R:Cn c) (Q:Ay Value.string w w.heap.size 1 (some fj) c.Bl) (hF:¬F fj.block) (an:base<=w.heap.size) (ee:(Z.length:Int)<room) (ez:room<=200) :
  Calls Tryz.prog 129 #[zP s,.agg (Cu c (some fj) k)] w (qI w F base s room Z c):=by
 obtain⟨nb,bb,wb,fb,fw,bg,bf⟩:=f;have cu:Cu c (some fj) k=#[zI c.kind,zU c.Aq,.string c.Ad,.slice (some fj) c.Bl.length k,zI c.BX,zI c.till,zI c.AO]:=rfl;have h:Au w (w.alloc (.cells (Cu c (some fj) k) 31)):=(Aa _ w).alloc _;have x:Hid (AX (w.alloc (.cells (Cu c (some fj) k) 31)) w.heap.size 31 (Cu c (some fj) k)):=Lh (AX.new w _ _);have fi:=Lh (bg.AB h);have af:=Lh bf;have U:Hid (¬Gt s nb bb wb Z fw fj.block):=Lh fun f=>hF (bf _ f)
 have bu:Hid (∀ k,Gt s nb bb wb Z fw k->k<w.heap.size):=Lh bg.m.lt;have A:=Lh (Q.AB h);have bs:=Lh fun W (Q:Ay Value.string W W.heap.size 1 (some fj) c.Bl)=>Ja c (some fj) k W R Q
 have ei:=(Cm R.set).2.1;have db:=Lh fun W (Q:Ay Value.string W W.heap.size 1 (some fj) c.Bl)=>Qs c fj k W (by omega) Q
 have dc:Hid (fj.block<w.heap.size):=Lh (by
  obtain⟨b,o,be,ed,_⟩:=Q 0 (by have:=(Cm R.set).1;omega);injection be with be;subst be;exact ed)
 have bw:=Lh R;have bt:=Lh an;have ao:Mk (Dy (Db c)):=by
  have:=JE R;unfold Mk maxLen;rw[E5];omega
 rw[cu] at bs x fi h A ⊢;obtain⟨fg,bm⟩:∃ fg,fg=Z.length:=⟨_,rfl⟩
 have ah:=Lh bm;rw[<- bm] at ee;have ew:(fg:Int)<=200:=by omega
 have K:=Lh (h.mono (S':=Gt s nb bb wb Z fw) fun _ _ f=>f.elim);clear bg bf cu R Q bm hF an h;go_in;go_upto_region 1 with(fail)
 obtain⟨au,bp⟩:∃ au,au=w.heap.size:=⟨_,rfl⟩
 have ce:=Lh bp;generalize w.alloc (.cells #[zI c.kind,zU c.Aq,.string c.Ad,.slice (some fj) c.Bl.length k,zI c.BX,zI c.till,zI c.AO] 31)=fd at fi K x A ⊢;rw[<- bp] at x ⊢;clear bp;go_upto_region 4 with(first
  |(refine AA rfl (.tmp 3) rfl rfl x.out Tryz.underlying31 rfl Cg ?_)
  |(go_at_call 60;refine(bs.out _ A.out).mono ?_;rintro fh M ⟨rfl,j⟩;replace x:=Lh (x.out.Ab j id);replace fi:=Lh (fi.out.AB j);replace A:=Lh (A.out.AB j);replace K:=Lh (K.out.AJ j fun _ _ f=>f.elim);clear j))
 have bc:Cl M s 4 (.map (some bb)):=fi.out.BR.cell 4;generalize ct:Dy (Db c)=cg at ao ⊢;have av:=Lh ct;clear ct;rcases P:fb cg with _|i
 ·have dk:Hid ((Z.map (·.c)).any (fun d=>decide (Dy (Db d)=Dy (Db c)))=false):=Lh (by
   rw[List.any_eq_false];intro d eh;obtain⟨z,G,rfl⟩:=Bp.1 eh;obtain⟨fk,cw,rfl⟩:=CQ G;have:=fi.out.pW fk _ (Ah cw);intro fh;rw[of_decide_eq_true fh,av.out,P] at this;cases this)
  have aq:=fi.out.bytes.JI (T:=236) (e:=3) Sa Tryz.underlying236 ao P (ND M) true;simp only[if_true] at aq;have dh:=Lh P;clear P;go_upto_region 7 with(fail)
  clear aq bc;obtain⟨l,bh,cx,ek⟩:=fi.out.nums;have el:=PZ bh cx;have ea:decide (room<=(l.length:Int))=false:=by rw[Ag];have:=ah.out;omega
  have bv:=Lh bh;clear bh cx ek el;have X:Cl M s 3 (.map (some nb)):=fi.out.BR.cell 3;have ch:Cl M s 0 (zI room):=fi.out.BR.cell 0;refine GZ (fun W=>Cl W s 3 (.map (some nb))/\Cl W s 0 (zI room)/\Cw W Tryz.prog 3 nb l) ⟨X,ch,bv.out.drew⟩ fun a=>?_
  replace fi:=Lh (fi.out.AB (Aa _ M).drew);replace x:=Lh x.out.drew;replace A:=Lh (A.out.AB (Aa _ M).drew);replace K:=Lh K.out.drew;clear X ch;generalize M.drew=bq at fi x A K a ⊢;refine hq 0 31 a ?_;refine hq 1 32 a ?_;refine hq 2 33 a ?_;refine hq 3 34 a ?_;refine hq 4 35 (hx:=fun W Y=>KO (.tmp 34) rfl rfl Y.2.2 Tryz.underlying235) a ?_;refine hq 5 36 a ?_;refine hq 6 37 a ?_;refine hq 7 38 a ?_;refine hq 8 39 a ?_;refine hq 9 40 a ?_;refine zw ?_;clear a;clear ea bv;have dy:Cl bq s 1 (zI (fg:Int)):=by rw[ah.out];exact fi.out.BR.cell 1
  have eb:=fi.out.BR.frozen 1;have ay:=Lh fi.out.ne;have aw:=Lh fi.out.m;rw[<- ah.out] at aw;go_upto_region 11 with(fail)
  have q:=aw.out.set 1 (zI ((fg:Int)+1));have ag:Hid (Fu (bq.setCell (zA s 1) (zI ((fg:Int)+1))) base s nb bb wb #[zI room,zI ((fg:Int)+1),zI (fg:Int),.map (some nb),.map (some bb),.map (some wb)] (fZ Z) fb fw Z (16*fg)):=Lh q.1;have cc:=Lh (x.out.Ab q.2 fun fh=>Bv (bu.out s (.inl rfl)) (by have:=ce.out;omega));have bx:=Lh (JJ A.out q.2 fun fh=>U.out (.inl fh));have cb:=Lh (K.out.AJ q.2 fun k _ fh=>.inl fh);clear q dy eb aw;generalize bq.setCell (zA s 1) (zI ((fg:Int)+1))=br at ag cc bx cb ⊢;have dz:Cl br s 2 (zI (fg:Int)):=ag.out.BR.cell 2;have ec:=ag.out.BR.frozen 2;go_upto_region 12 with(fail)
  have q:=ag.out.set 2 (zI ((fg:Int)+1));have v:Hid (Fu (br.setCell (zA s 2) (zI ((fg:Int)+1))) base s nb bb wb #[zI room,zI ((fg:Int)+1),zI ((fg:Int)+1),.map (some nb),.map (some bb),.map (some wb)] (fZ Z) fb fw Z (16*fg)):=Lh q.1;have y:=Lh (cc.out.Ab q.2 fun fh=>Bv (bu.out s (.inl rfl)) (by have:=ce.out;omega));have J:=Lh (JJ bx.out q.2 fun fh=>U.out (.inl fh));have B:=Lh (cb.out.AJ q.2 fun k _ fh=>.inl fh);clear q dz ec;generalize br.setCell (zA s 2) (zI ((fg:Int)+1))=ar at v y J B ⊢;have X:Cl ar s 3 (.map (some nb)):=v.out.BR.cell 3;refine EQ 7 (S:=fun W=>Cl W s 3 (.map (some nb))/\AX W au 31 #[zI c.kind,zU c.Aq,.string c.Ad,.slice (some fj) c.Bl.length k,zI c.BX,zI c.till,zI c.AO]) (by kernel_rfl) ⟨X,y.out.drew⟩ fun a=>?_
  replace v:=Lh (v.out.AB (Aa _ ar).drew);replace y:=Lh y.out.drew;replace J:=Lh (J.out.AB (Aa _ ar).drew);replace B:=Lh B.out.drew;clear X;generalize ar.drew=ff at v y J B a ⊢;refine zq 0 59 a ?_;refine zq 1 60 a ?_;refine zq 2 61 a ?_;refine zq 3 62 a ?_;refine zq 4 63 a ?_;refine zq 5 64 (hx:=fun W Y=>Ce (.tmp 3) rfl rfl Y.2 Tryz.underlying31 rfl Cg) a ?_;refine zs 6 rfl fun C h=>?_
  go_simp;refine(db.out _ J.out).mono ?_;rintro fh I ⟨n,r,rfl,bi,j⟩;replace v:=Lh (v.out.AB j);replace y:=Lh (y.out.Ab j id);replace J:=Lh (J.out.AB j);have dp:Hid (∀ g,(Value.slice n c.Bl.length r).ownBlock=some g->w.heap.size<=g):=Lh fun g aa=>AV B.out.size (BQ bi aa)
  have dm:Hid (I.ownsRow base 27 1 (.slice n c.Bl.length r) c.Bl.length (c.Bl.map Value.string)):=Lh (Du bi (AV bt.out B.out.size));replace B:=Lh (B.out.AJ j fun _ _ f=>f.elim);clear bi j;go_wp2;refine h.out _ _ ⟨v.out.BR.cell 3,y.out⟩ fun a=>?_
  clear h C;obtain⟨ad,L,co,E⟩:=v.out.qW ay.out (i:=(fg:Int)) (by constructor<;>omega) ⟨c,n,r⟩ dm.out;rw[show Gy ⟨c,n,r⟩= .agg #[zI c.kind,zU c.Aq,.string c.Ad,.slice n c.Bl.length r,zI c.BX,zI c.till,zI c.AO] from rfl] at L;refine zl fun C h=>?_
  go_simp;refine h.out _ _ ?_;clear h C;refine zd ?_;clear L a;have ax:=Lh co;have cd:=Lh (y.out.Ab E (v.out.nums.Ee y.out));have ds:=Lh (JJ J.out E fun fh=>U.out (.inr (.inl fh)));have az:=Lh (B.out.AJ E fun k _ fh=>.inr (.inl fh));clear co E;have bc:Cl ad s 4 (.map (some bb)):=ax.out.BR.cell 4;obtain⟨es,L,cm,am⟩:=ax.out.qV ay.out ao (fg:Int);go_upto_region 14 with(fail)
  have dw:=Lh (cd.out.Ab am (ax.out.bytes.Ee cd.out));have dq:=Lh (JJ ds.out am fun fh=>U.out (.inr (.inr (.inl fh))));have dt:=Lh (az.out.AJ am fun k _ fh=>.inr (.inr (.inl fh)));have di:=Lh cm;clear L cm am bc;have da:Cl es au 3 (.slice (some fj) c.Bl.length k):=dw.out.cell 3;obtain⟨H,bn⟩:∃ H,H=c.Bl.length:=⟨_,rfl⟩
  have dl:=Lh bn;have ex:H<=16:=by omega
  rw[<- bn] at da;have df:Hid (∀ e,Gt s nb bb wb (Z++[⟨c,n,r⟩]) fw e->Gt s nb bb wb Z fw e∨w.heap.size<=e):=Lh fun e hq=>by
   rcases hq with hq|hq|hq|hq|hq|⟨z,G,aa⟩
   ·exact .inl (.inl hq)
   ·exact .inl (.inr (.inl hq))
   ·exact .inl (.inr (.inr (.inl hq)))
   ·exact .inl (.inr (.inr (.inr (.inl hq))))
   ·exact .inl (.inr (.inr (.inr (.inr (.inl hq)))))
   ·rcases Bd.1 G with G|G
    ·exact .inl (.inr (.inr (.inr (.inr (.inr ⟨z,G,aa⟩)))))
    ·rw[Ai.1 G] at aa;exact .inr (dp.out e aa)
  clear bn ei;go_wp2_with fail;clear da;go_loopg [75] H fun gk i wr=>∃ (fk:Nat) (D:BB->Option MQ),fk+gk=H/\i=zI fk/\Hid (Fu wr base s nb bb wb #[zI room,zI ((fg:Int)+1),zI ((fg:Int)+1),.map (some nb),.map (some bb),.map (some wb)] (Ig (fZ Z) (fg:Int) ⟨c,n,r⟩) (Ig fb cg (fg:Int)) D (Z++[⟨c,n,r⟩]) (16*fg+fk))/\Hid (∀ e,Gt s nb bb wb (Z++[⟨c,n,r⟩]) D e->Gt s nb bb wb Z fw e∨w.heap.size<=e)/\Hid (Am (Gt s nb bb wb Z fw) w wr)/\Hid (Ay Value.string wr wr.heap.size 1 (some fj) c.Bl)
  case atStart=>exact⟨0,fw,by omega,rfl,di,df,dt,dq⟩
  case round =>
   obtain⟨fk,D,cw,rfl,O,hF,cq,cp⟩:=hrel;by_cases ev:fk<H
   ·have er:(fk:Int)<(H:Int):=by omega
    have bl:fk<c.Bl.length:=by have:=dl.out;omega
    obtain⟨eu,fc,bk,ef,eg⟩:=Ay.BV (V:=Value.string) (fun _=>rfl) cp.out bl;obtain⟨u,bo⟩:∃ u,u=c.Bl[fk]:=⟨_,rfl⟩
    have ab:Mk u:=by
     have:=bw.out.fo u (by rw[bo];exact Br bl);unfold Mk maxLen;omega
    rw[<- bo] at eg;injection bk with bk;subst bk;have ci:Cl wr s 5 (.map (some wb)):=O.out.BR.cell 5;have cz:=Lc O.out.words ab;obtain⟨fl,m,p,ba,ap⟩:∃ fl m p ba,rowOf D u=⟨fl,m,p,ba⟩:=⟨_,_,_,_,rfl⟩
    have N:=Lh ap;have ca:Hid (wr.ownsRow base 3 1 (.slice fl m p) m (ba.map (Value.int .i64))/\m<=16*fg+fk):=Lh (by have:=O.out.row u;rw[ap] at this;exact this);rw[show Hw (rowOf D u)= .slice fl m p by rw[ap];rfl] at cz;have ey:m<=5000:=by have:=ca.out.2;omega
    obtain⟨eq,ej,en,eo,ep⟩:=info_parts Nf;clear bo ap bl ef;go_upto_region 17 with(fail)
    refine EQ 14 (S:=fun W=>Cl W s 5 (.map (some wb))/\(Instr.lookup 237 (.map (some wb)) (.string u) false).run Tryz.prog W= .ok (.slice fl m p) W) (by kernel_rfl) ⟨ci,by rw[show Value.slice fl m p=Hw (rowOf D u) by rw[N.out];rfl];exact Lc (O.out.AB (Aa _ wr).drew).words ab⟩ fun a=>?_
    have fm:=Lh (O.out.AB (Aa _ wr).drew);have bz:=Lh (cp.out.AB (Aa _ wr).drew);have aj:=Lh cq.out.drew;have ai:=Lh ca.out.1.drew;clear ci cz;generalize wr.drew=I at fm bz aj ai a ⊢;refine zq 0 79 a ?_;refine zq 1 80 a ?_;refine zq 2 81 a ?_;refine zq 3 82 a ?_;refine zq 4 83 a ?_;refine zq 5 84 a ?_;refine zq 6 85 a ?_;refine zq 7 86 a ?_;refine zq 8 87 a ?_;refine zq 9 88 a ?_;refine zq 10 89 (hx:=fun W Y=>Jo (.tmp 87) (.tmp 88) rfl rfl rfl Y.2) a ?_;refine zq 11 90 a ?_;refine zs 12 rfl fun C h=>?_
    go_simp;refine h.out _ _ (by(try dsimp only);exact⟨(World.cell?_alloc_lt _ _ _ fm.out.BR.lt).trans (fm.out.BR.cell 5),by rw[show Value.slice fl m p=Hw (rowOf D u) by rw[N.out];rfl];exact Lc (fm.out.AB ((Aa _ I).alloc _)).words ab⟩) fun a=>?_
    clear h C;refine zs 13 rfl fun C h=>?_
    rw[AQ (by rfl)];refine wp_append_lies _ (.tmp 89) (.tmp 91) 205 rfl base 3 eq _ 1 8 Tryz.underlying205 ej en eo ep rfl (by omega) (.slice fl m p) m _ rfl (ai.out.alloc _) (zA I.heap.size 0) 1 1 [zI (fg:Int)] rfl rfl (World.news_of_block (cs:=#[zI (fg:Int)]) (t:=3) (fr:=(0,0)) (heap_alloc_new I _)) (by simp[Value.oneCell']) (by omega) (by unfold maxLen;omega) (by omega) (by have:=bt.out;have:=aj.out.size;simp;omega) (I.heap.size+1) (by simp) ?_;intro bd cj ad cf cv cr em;rw[Ga 92 (by rfl)];dsimp only[Act.put,AZ,Bq,Bi];have E:Am (fun e=>(Value.slice fl m p).ownBlock=some e) I ad:=((Aa _ I).alloc _).grown cv fun e f _=>f
    have az:=Lh E;have dn:=Lh cf;have dd:Hid ((Value.slice fl m p).ownBlock=some bd∨I.heap.size<=bd):=Lh (cr.imp id fun f=>by omega);have de:Hid (Cl ad s 5 (.map (some wb))):=Lh ((fm.out.BR.Ab E (Ba ai.out fm.out.BR (by decide))).cell 5);have dv:=Lh (fm.out.words.Ab E (fm.out.words.own_ne ai.out));clear cf cv cr em E;refine h.out _ _ (by(try dsimp only);exact⟨de.out,by rw[show Value.slice fl m p=Hw (rowOf D u) by rw[N.out];rfl];exact Lc dv.out ab⟩) fun a=>?_
    clear h C;obtain⟨fe,ck,L,cn,bj,cl⟩:=fm.out.add (w2:=ad) (i:=(fg:Int)) (g:=bd) (cap:=cj) ay.out ab (by rw[N.out];exact az.out) (by rw[N.out];exact dn.out) (by rw[N.out];exact dd.out);rw[N.out] at L;dsimp only at L;refine zl fun C h=>?_
    go_simp;refine h.out _ _ ?_;clear h C;refine zd ?_;clear L a;have dj:=Lh cn;have dr:=Lh (JJ bz.out bj fun fh=>by rcases hF.out _ fh with f|f;exact U.out f;have:=dc.out;omega);have du:=Lh (aj.out.AJ bj fun e hq fh=>(hF.out e fh).elim id fun f=>Bv hq (by omega));have dg:Hid (∀ e,Gt s nb bb wb (Z++[⟨c,n,r⟩]) ck e->Gt s nb bb wb Z fw e∨w.heap.size<=e):=Lh fun e hq=>(cl e hq).elim (hF.out e) fun f=>.inr (AV aj.out.size f)
    clear cn bj cl;go_wp2;go_roundg (gk-1)
    case measure=>omega
    case rel=>exact⟨fk+1,ck,by omega,by go_num,Lh (by rw[<- Nat.add_assoc];exact dj.out),dg,du,dr⟩
   ·have er:¬(fk:Int)<(H:Int):=by omega
    obtain rfl:fk=H:=by omega
    go_wp2;go_ret2;refine⟨⟨fg,0,rfl⟩,Z++[⟨c,n,r⟩],⟨nb,bb,wb,_,D,O.out.done ah.out (by omega) fi.out dh.out av.out bw.out,fun e hq=>?_⟩,by unfold Jw;rw[dk.out,Bw];rfl,cq.out.mono fun e _ hq=>af.out e hq⟩;rcases hF.out e hq with f|f
    ·exact .inl (af.out e f)
    ·exact .inr ⟨f,O.out.lt e hq⟩
 ·have aq:=fi.out.bytes.Jc (T:=236) (e:=3) Sa Tryz.underlying236 ao P true;simp only[if_true] at aq;have dx:Hid ((Z.map (·.c)).any (fun d=>decide (Dy (Db d)=Dy (Db c)))=true):=Lh (by
   obtain⟨fk,z,_,G,an⟩:=fi.out.pX _ _ P;exact F6.2 ⟨z.c,Bp.2 ⟨z,Bn G,rfl⟩,by rw[decide_eq_true_iff,an,av.out]⟩)
  clear P;go_wp2;go_ret2;exact⟨⟨i,0,rfl⟩,Z,⟨nb,bb,wb,fb,fw,fi.out,fun k j=>.inl (af.out k j)⟩,by unfold Jw;rw[dx.out];rfl,K.out.mono fun k _ j=>af.out k j⟩
end

end Go.Proofs.YtcjcndnjpedniaaGreat
