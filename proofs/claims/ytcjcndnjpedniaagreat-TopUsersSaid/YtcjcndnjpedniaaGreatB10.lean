/- A part of the proof of TopUsers. -/
import Derived.Test.YtcjcndnjpedniaaGreatB9
namespace Go.Proofs.YtcjcndnjpedniaaGreat
set_option linter.all false
set_option maxRecDepth 100000
set_option maxHeartbeats 8000000
open Go.RowKit
theorem E9 {s:BB} (a:CX s=true):s.size%2=0/\1<=Cc s/\Cc s<=8/\EX (AU s)=true:=by
 unfold CX I5 at a;simp only[De,Gu,Bb,Ag] at a;exact⟨by omega,a.2.1,a.2.2.1,a.2.2.2⟩
def Jv (P:Prop) (w:Bc) (e:Ending) (w':Bc):Prop:=∃ a,e= .returned (.bool a)/\(a=true->P)/\Au w w'
section
variable {w:Bc}
theorem Ta {s:BB} {k:Int} (hk:k=1∨k=2) (a:Ev s [k]=true):Ev s [1,2]=true:=by
 unfold Ev at a ⊢;simp only[Bb,BI,CW,or_false] at a ⊢;rcases hk with rfl|rfl
 ·exact⟨a.1,.inl a.2⟩
 ·exact⟨a.1,.inr a.2⟩
theorem bR {f:BB} {x:Int} (h:CX f=true) (c:Cc f=1) (d:G6 f 0=x):f=C8 [x]:=by
 obtain⟨g,_,_,_⟩:=E9 h;have a:(AU f).length=1:=by rw[BG];unfold Cc at c;omega
 have b:=GM (s:=f) (i:=0) (by omega);have:AU f=[x]:=by
  rcases ha:AU f with _|⟨j,_|_⟩
  ·rw[ha] at a;cases a
  ·simp only[ha,List.getElem_cons_zero] at b;have e:G6 f 0=j:=b;rw[<- d,e]
  ·rw[ha] at a;simp at a
 rw[<- this,Js g]
theorem jJ (signer frm n serial:Int) (speaker f:BB) (t:List BB) (A:Option Addr) (k:Nat) (w:Bc) (cv:speaker.size<=100) (cs:f.size<=100) (P:CX f=true) (ab:Ay Value.string w w.heap.size 1 A (f::t)) :
  Calls Tryz.prog 21 #[.agg #[zI 1,zU signer,.string speaker,.slice A (t.length+1) k,zI frm,zI n,zI serial]] w (Jv (Hz ⟨1,signer,speaker,f::t,frm,n,serial⟩ f/\t=[]) w):=by
 have cl:=Lh P;have cn:=Lh ab;obtain⟨l,dc,rfl,cd,av⟩:=Ay.BV (V:=Value.string) (fun _=>rfl) ab (j:=0) (by simp);have ce:Cl w l dc (.string f):=av;have ai:=Lh fun x=>G7 f x (by omega)
 have aj:=Lh fun x=>I6 speaker x (by omega)
 have cg:1<=(AU f).length:=by
  obtain⟨_,q,_⟩:=E9 P;have:=BG f;unfold Cc at q;omega
 have ay:(AU f).length<=8:=by
  obtain⟨_,_,q,_⟩:=E9 P;have:=BG f;unfold Cc at q;omega
 have bj:Hid (Cc f=((AU f).length:Int)):=Lh (by rw[BG];rfl);have ak:Hid ((AU f)[0]?= some (G6 f 0)):=Lh (by rw[Ah (by omega)];have da:=GM (s:=f) (i:=0) (by omega);exact Bu some da.symm);have al:Hid (∀ b,b+1=(AU f).length->(AU f)[b]?= some (G6 f b)):=Lh fun b hq=>by rw[Ah (by omega),GM (i:=b) (by omega)]
 have bn:Hid (∀ k:Int,0<=k->EE speaker=k->Ev speaker [k]=true):=Lh fun k e da=>by
  unfold EE at da;split at da
  ·rename_i q;unfold Ev;have:Cc speaker=1:=by unfold Cc;rw[BG] at q;omega
   simp[this,da]
  ·omega
 obtain⟨b,hq⟩:∃ b,b+1=(AU f).length:=⟨(AU f).length-1,by omega⟩
 have U:Hid (∀ D,Ey (G6 f D)):=Lh fun D=>IJ f D
 have F:=ak.out;have G:=al.out b hq;have cm:=Lh hq;obtain⟨dd,R⟩:∃ E,E=G6 f 0:=⟨_,rfl⟩
 obtain⟨o,S⟩:∃ E,E=G6 f (b:Int):=⟨_,rfl⟩
 have r:Ey dd:=by rw[R];exact U.out _
 have ac:Ey o:=by rw[S];exact U.out _
 rw[<- R] at F;rw[<- S] at G;have bk:=Lh R;have bl:=Lh S;have i:=Lh fun a x (ha:Ey a)=>FL a x ha
 obtain⟨d,Q⟩:∃ d,d=AU f:=⟨_,rfl⟩
 obtain⟨af,ad⟩:∃ E,E=EE speaker:=⟨_,rfl⟩
 rw[<- Q] at ai F G cg ay;rw[<- ad] at aj;have bh:=Lh Q;have bm:=Lh ad;have cf:b+1=d.length:=by rw[Q];exact hq
 have ct:0<=o/8192:=by have:=ac.1;omega
 have cu:o/8192<=7:=by have:=ac.2;omega
 have db:Hid (AX (w.alloc (.cells #[zI 1,zU signer,.string speaker,zS l dc (t.length+1) k,zI frm,zI n,zI serial] 31)) w.heap.size 31 #[zI 1,zU signer,.string speaker,zS l dc (t.length+1) k,zI frm,zI n,zI serial]):=Lh (AX.new w _ _);have c:Hid (Au w (w.alloc (.cells #[zI 1,zU signer,.string speaker,zS l dc (t.length+1) k,zI frm,zI n,zI serial] 31))):=Lh ((Aa _ w).alloc _);clear hq R S Q ad ak al U ab av P;go_in;go_upto_region 1 with(fail)
 generalize w.alloc (.cells #[zI 1,zU signer,.string speaker,zS l dc (t.length+1) k,zI frm,zI n,zI serial] 31)=ci at db c ⊢;obtain⟨g,Y⟩:∃ g,g=w.heap.size:=⟨_,rfl⟩
 rw[<- Y] at db ⊢;have ck:=Lh Y;clear Y;obtain⟨I,J,K,L,M,N,O⟩:=Bh db.out;have bu:Cl ci l dc (.string f):=(c.out.cell (p:=zA l dc) cd id).trans ce;go_upto_region 2 with(go_at_call 41;refine(ai.out _).mono ?_;rintro h ba ⟨v,rfl,y,e⟩;obtain⟨cj,cw,rfl⟩:=BD y;replace db:=Lh (db.out.Ab e id);replace c:=Lh (c.out.to e);clear e)
 clear I J K L M N O bu;obtain⟨I,J,K,L,M,N,O⟩:=Bh db.out;obtain⟨H,T,rfl,au,X⟩:=Ay.BV (V:=JC) (fun _=>rfl) (Ay.Ea (V:=JC) (fun _=>rfl) y) (j:=b) (by omega);obtain⟨co,cx,hA3,_,W⟩:=Ay.BV (V:=JC) (fun _=>rfl) (Ay.Ea (V:=JC) (fun _=>rfl) y) (j:=0) (by omega);cases hA3;have ap:d[b]=o:=by have:=G;rw[Ah (by omega)] at this;injection this
 have ao:d[0]=dd:=by have:=F;rw[Ah (by omega)] at this;injection this
 rw[ap] at X;rw[ao] at W;have ax:Cl ba H (T+b) (zU o):=X;have aw:Cl ba H T (zU dd):=W;have am:=Lh y;clear ap ao X W y F G;have bv:(0:Int)<=(d.length:Int)-1:=by omega
 have bw:(1:Int)<=(d.length:Int):=by omega
 have bx:(d.length:Int)-1<(d.length:Int):=by omega
 have bz:IntKind.i64.wrap ((d.length:Int)-1)=(b:Int):=by rw[IntKind.wrap_i64];omega
 have ca:((d.length:Int)-1)=(b:Int):=by omega
 have cb:(b:Int)<(d.length:Int):=by omega
 go_upto_region 3 with(go_at_call 17;refine(i.out _ _ ac).mono ?_;rintro h u ⟨rfl,rfl⟩)
 clear bv bw bx bz ca cb ay;go_upto_region 4 with(go_at_call 43;refine(aj.out _).mono ?_;rintro h cz ⟨rfl,e⟩;replace db:=Lh (db.out.Ab e id);replace c:=Lh (c.out.to e);have cr:=(e.cell (p:=zA H (T+b)) au id).trans ax;have cq:=(e.cell (p:=zA H T) au id).trans aw;replace am:=Lh (Aj am.out e fun _ _ da=>da);clear e)
 clear I J K L M N O ax aw;obtain⟨I,J,K,L,M,N,O⟩:=Bh db.out;have bi:Hid (Cc f=(d.length:Int)):=Lh (by rw[bj.out,bh.out]);have bg:=Lh cf;generalize d.length=m at *;generalize az:o/8192=ag at *;have bo:=Lh az;clear az;by_cases aa:t.length=0
 ·have bt:((t.length+1:Int)==1)=true:=by rw[beq_iff_eq];omega
  have be:=Lh aa;clear aa;by_cases C:af=1
  ·have bs:(af==1)=true:=bT C;have bd:=Lh C;clear C;by_cases Z:m=2
   ·have br:((m:Int)==2)=true:=by rw[beq_iff_eq];omega
    have ah:=Lh Z;clear Z;by_cases B:dd/8192=3
    ·have bq:(dd/8192==3)=true:=bT B;have bc:=Lh B;clear B;by_cases z:ag=5
     ·have bp:(ag==5)=true:=bT z;have bb:=Lh z;clear z;have bf:Hid (Hz ⟨1,signer,speaker,f::t,frm,n,serial⟩ f/\t=[]):=Lh ⟨⟨fun _=>⟨bn.out 1 (by omega) (by rw[<- bm.out];exact bd.out),by rw[bi.out];have:=ah.out;omega,by rw[<- bk.out];exact bc.out,by have ch:b=1:=(by have q:=ah.out;have cp:=bg.out;omega);have ar:=bl.out;rw[ch] at ar;have cc:o=G6 f 1:=ar;rw[<- cc,bo.out];exact bb.out⟩,(fun da=>by cases da),(fun da=>by cases da),(fun da=>by cases da),(fun da=>by cases da)⟩,Dl be.out⟩;go_wp2_with (go_at_call 17;refine(i.out _ _ r).mono ?_;rintro h u ⟨rfl,rfl⟩);go_ret;exact⟨true,rfl,fun _=>bf.out,by first|exact c.out|exact c.out.drewN _⟩
     ·have bp:(ag==5)=false:=bF z;clear z;go_wp2_with (go_at_call 17;refine(i.out _ _ r).mono ?_;rintro h u ⟨rfl,rfl⟩);go_ret;exact⟨false,rfl,(fun da=>by cases da),by first|exact c.out|exact c.out.drewN _⟩
    ·have bq:(dd/8192==3)=false:=bF B;clear B;go_wp2_with (go_at_call 17;refine(i.out _ _ r).mono ?_;rintro h u ⟨rfl,rfl⟩);go_ret;exact⟨false,rfl,(fun da=>by cases da),by first|exact c.out|exact c.out.drewN _⟩
   ·have br:((m:Int)==2)=false:=by rw[Cs];omega
    clear Z;go_wp2_with (go_at_call 17;refine(i.out _ _ r).mono ?_;rintro h u ⟨rfl,rfl⟩);go_ret;exact⟨false,rfl,(fun da=>by cases da),by first|exact c.out|exact c.out.drewN _⟩
  ·have bs:(af==1)=false:=bF C;clear C;go_wp2_with (go_at_call 17;refine(i.out _ _ r).mono ?_;rintro h u ⟨rfl,rfl⟩);go_ret;exact⟨false,rfl,(fun da=>by cases da),by first|exact c.out|exact c.out.drewN _⟩
 ·have bt:((t.length+1:Int)==1)=false:=by rw[Cs];omega
  clear aa;go_wp2_with (go_at_call 17;refine(i.out _ _ r).mono ?_;rintro h u ⟨rfl,rfl⟩);go_ret;exact⟨false,rfl,(fun da=>by cases da),by first|exact c.out|exact c.out.drewN _⟩
theorem jK (signer frm cv serial:Int) (speaker f:BB) (t:List BB) (A:Option Addr) (k:Nat) (w:Bc) (cn:speaker.size<=100) (ck:f.size<=100) (O:CX f=true) (aa:Ay Value.string w w.heap.size 1 A (f::t)) :
  Calls Tryz.prog 21 #[.agg #[zI 2,zU signer,.string speaker,.slice A (t.length+1) k,zI frm,zI cv,zI serial]] w (Jv (Hz ⟨2,signer,speaker,f::t,frm,cv,serial⟩ f/\t=[]) w):=by
 have bf:=Lh O;have ce:=Lh aa;obtain⟨h,l,rfl,bu,ap⟩:=Ay.BV (V:=Value.string) (fun _=>rfl) aa (j:=0) (by simp);have bv:Cl w h l (.string f):=ap;have af:=Lh fun r=>G7 f r (by omega)
 have ag:=Lh fun r=>I6 speaker r (by omega)
 have bx:1<=(AU f).length:=by
  obtain⟨_,u,_⟩:=E9 O;have:=BG f;unfold Cc at u;omega
 have au:(AU f).length<=8:=by
  obtain⟨_,_,u,_⟩:=E9 O;have:=BG f;unfold Cc at u;omega
 have be:Hid (Cc f=((AU f).length:Int)):=Lh (by rw[BG];rfl);have ah:Hid ((AU f)[0]?= some (G6 f 0)):=Lh (by rw[Ah (by omega)];have ct:=GM (s:=f) (i:=0) (by omega);exact Bu some ct.symm);have ai:Hid (∀ b,b+1=(AU f).length->(AU f)[b]?= some (G6 f b)):=Lh fun b hq=>by rw[Ah (by omega),GM (i:=b) (by omega)]
 have bi:Hid (∀ k:Int,0<=k->EE speaker=k->Ev speaker [k]=true):=Lh fun k e ct=>by
  unfold EE at ct;split at ct
  ·rename_i u;unfold Ev;have:Cc speaker=1:=by unfold Cc;rw[BG] at u;omega
   simp[this,ct]
  ·omega
 obtain⟨b,hq⟩:∃ b,b+1=(AU f).length:=⟨(AU f).length-1,by omega⟩
 have T:Hid (∀ B,Ey (G6 f B)):=Lh fun B=>IJ f B
 have E:=ah.out;have F:=ai.out b hq;have cd:=Lh hq;obtain⟨o,Q⟩:∃ D,D=G6 f 0:=⟨_,rfl⟩
 obtain⟨q,R⟩:∃ D,D=G6 f (b:Int):=⟨_,rfl⟩
 have z:Ey o:=by rw[Q];exact T.out _
 have ab:Ey q:=by rw[R];exact T.out _
 rw[<- Q] at E;rw[<- R] at F;have bg:=Lh Q;have cf:=Lh R;have n:=Lh fun a r (ha:Ey a)=>FL a r ha
 obtain⟨d,P⟩:∃ d,d=AU f:=⟨_,rfl⟩
 obtain⟨ae,ac⟩:∃ D,D=EE speaker:=⟨_,rfl⟩
 rw[<- P] at af E F bx au;rw[<- ac] at ag;have bc:=Lh P;have bh:=Lh ac;have bw:b+1=d.length:=by rw[P];exact hq
 have cl:0<=q/8192:=by have:=ab.1;omega
 have cm:q/8192<=7:=by have:=ab.2;omega
 have cu:Hid (AX (w.alloc (.cells #[zI 2,zU signer,.string speaker,zS h l (t.length+1) k,zI frm,zI cv,zI serial] 31)) w.heap.size 31 #[zI 2,zU signer,.string speaker,zS h l (t.length+1) k,zI frm,zI cv,zI serial]):=Lh (AX.new w _ _);have c:Hid (Au w (w.alloc (.cells #[zI 2,zU signer,.string speaker,zS h l (t.length+1) k,zI frm,zI cv,zI serial] 31))):=Lh ((Aa _ w).alloc _);clear hq Q R P ac ah ai T aa ap O;go_in;go_upto_region 1 with(fail)
 generalize w.alloc (.cells #[zI 2,zU signer,.string speaker,zS h l (t.length+1) k,zI frm,zI cv,zI serial] 31)=bz at cu c ⊢;obtain⟨g,X⟩:∃ g,g=w.heap.size:=⟨_,rfl⟩
 rw[<- X] at cu ⊢;have cb:=Lh X;clear X;obtain⟨H,I,J,K,L,M,N⟩:=Bh cu.out;have bn:Cl bz h l (.string f):=(c.out.cell (p:=zA h l) bu id).trans bv;go_upto_region 2 with(go_at_call 41;refine(af.out _).mono ?_;rintro i aw ⟨v,rfl,cw,e⟩;obtain⟨ca,co,rfl⟩:=BD cw;replace cu:=Lh (cu.out.Ab e id);replace c:=Lh (c.out.to e);clear e)
 clear H I J K L M N bn;obtain⟨H,I,J,K,L,M,N⟩:=Bh cu.out;obtain⟨G,S,rfl,ao,W⟩:=Ay.BV (V:=JC) (fun _=>rfl) (Ay.Ea (V:=JC) (fun _=>rfl) cw) (j:=b) (by omega);obtain⟨ch,cp,hA3,_,U⟩:=Ay.BV (V:=JC) (fun _=>rfl) (Ay.Ea (V:=JC) (fun _=>rfl) cw) (j:=0) (by omega);cases hA3;have am:d[b]=q:=by have:=F;rw[Ah (by omega)] at this;injection this
 have al:d[0]=o:=by have:=E;rw[Ah (by omega)] at this;injection this
 rw[am] at W;rw[al] at U;have ar:Cl aw G (S+b) (zU q):=W;have aq:Cl aw G S (zU o):=U;have aj:=Lh cw;clear am al W U cw E F;have bo:(0:Int)<=(d.length:Int)-1:=by omega
 have bp:(1:Int)<=(d.length:Int):=by omega
 have bq:(d.length:Int)-1<(d.length:Int):=by omega
 have br:IntKind.i64.wrap ((d.length:Int)-1)=(b:Int):=by rw[IntKind.wrap_i64];omega
 have bs:((d.length:Int)-1)=(b:Int):=by omega
 have bt:(b:Int)<(d.length:Int):=by omega
 go_upto_region 3 with(go_at_call 17;refine(n.out _ _ ab).mono ?_;rintro i C ⟨rfl,rfl⟩)
 clear bo bp bq br bs bt au;go_upto_region 4 with(go_at_call 43;refine(ag.out _).mono ?_;rintro i cr ⟨rfl,e⟩;replace cu:=Lh (cu.out.Ab e id);replace c:=Lh (c.out.to e);have cj:=(e.cell (p:=zA G (S+b)) ao id).trans ar;have ci:=(e.cell (p:=zA G S) ao id).trans aq;replace aj:=Lh (Aj aj.out e fun _ _ ct=>ct);clear e)
 clear H I J K L M N ar aq;obtain⟨H,I,J,K,L,M,N⟩:=Bh cu.out;have bd:Hid (Cc f=(d.length:Int)):=Lh (by rw[be.out,bc.out]);have cc:=Lh bw;generalize d.length=m at *;generalize av:q/8192=cs at *;have cg:=Lh av;clear av;by_cases Z:t.length=0
 ·have bm:((t.length+1:Int)==1)=true:=by rw[beq_iff_eq];omega
  have ba:=Lh Z;clear Z;by_cases y:ae=1
  ·have bl:(ae==1)=true:=bT y;have az:=Lh y;clear y;by_cases Y:m=1
   ·have bk:((m:Int)==1)=true:=by rw[beq_iff_eq];omega
    have ay:=Lh Y;clear Y;by_cases x:o=signer
    ·have bj:(o==signer)=true:=bT x;have ax:=Lh x;clear x;have bb:Hid (Hz ⟨2,signer,speaker,f::t,frm,cv,serial⟩ f/\t=[]):=Lh ⟨⟨(fun ct=>by cases ct),fun _=>⟨bi.out 1 (by omega) (by rw[<- bh.out];exact az.out),bR bf.out (by rw[bd.out];have:=ay.out;omega) (by rw[<- bg.out];exact ax.out)⟩,(fun ct=>by cases ct),(fun ct=>by cases ct),(fun ct=>by cases ct)⟩,Dl ba.out⟩;go_upto_region 8 with(fail)
     go_quiet (fail);go_wp2_with (go_at_call 17;refine(n.out _ _ z).mono ?_;rintro i C ⟨rfl,rfl⟩);go_ret;exact⟨true,rfl,fun _=>bb.out,by first|exact c.out|exact c.out.drewN _⟩
    ·have bj:(o==signer)=false:=bF x;clear x;go_upto_region 8 with(fail)
     go_quiet (fail);go_wp2_with (go_at_call 17;refine(n.out _ _ z).mono ?_;rintro i C ⟨rfl,rfl⟩);go_ret;exact⟨false,rfl,(fun ct=>by cases ct),by first|exact c.out|exact c.out.drewN _⟩
   ·have bk:((m:Int)==1)=false:=by rw[Cs];omega
    clear Y;go_upto_region 8 with(fail)
    go_quiet (fail);go_wp2_with (go_at_call 17;refine(n.out _ _ z).mono ?_;rintro i C ⟨rfl,rfl⟩);go_ret;exact⟨false,rfl,(fun ct=>by cases ct),by first|exact c.out|exact c.out.drewN _⟩
  ·have bl:(ae==1)=false:=bF y;clear y;go_upto_region 8 with(fail)
   go_quiet (fail);go_wp2_with (go_at_call 17;refine(n.out _ _ z).mono ?_;rintro i C ⟨rfl,rfl⟩);go_ret;exact⟨false,rfl,(fun ct=>by cases ct),by first|exact c.out|exact c.out.drewN _⟩
 ·have bm:((t.length+1:Int)==1)=false:=by rw[Cs];omega
  clear Z;go_upto_region 8 with(fail)
  go_quiet (fail);go_wp2_with (go_at_call 17;refine(n.out _ _ z).mono ?_;rintro i C ⟨rfl,rfl⟩);go_ret;exact⟨false,rfl,(fun ct=>by cases ct),by first|exact c.out|exact c.out.drewN _⟩
theorem jL (signer frm l serial:Int) (speaker f:BB) (t:List BB) (A:Option Addr) (k:Nat) (w:Bc) (cg:speaker.size<=100) (cd:f.size<=100) (K:CX f=true) (U:Ay Value.string w w.heap.size 1 A (f::t)) :
  Calls Tryz.prog 21 #[.agg #[zI 3,zU signer,.string speaker,.slice A (t.length+1) k,zI frm,zI l,zI serial]] w (Jv (Hz ⟨3,signer,speaker,f::t,frm,l,serial⟩ f/\t=[]) w):=by
 have bt:=Lh K;have bv:=Lh U;obtain⟨h,i,rfl,bk,am⟩:=Ay.BV (V:=Value.string) (fun _=>rfl) U (j:=0) (by simp);have bl:Cl w h i (.string f):=am;have ac:=Lh fun n=>G7 f n (by omega)
 have ad:=Lh fun n=>I6 speaker n (by omega)
 have bn:1<=(AU f).length:=by
  obtain⟨_,q,_⟩:=E9 K;have:=BG f;unfold Cc at q;omega
 have ap:(AU f).length<=8:=by
  obtain⟨_,_,q,_⟩:=E9 K;have:=BG f;unfold Cc at q;omega
 have ay:Hid (Cc f=((AU f).length:Int)):=Lh (by rw[BG];rfl);have ae:Hid ((AU f)[0]?= some (G6 f 0)):=Lh (by rw[Ah (by omega)];have cn:=GM (s:=f) (i:=0) (by omega);exact Bu some cn.symm);have af:Hid (∀ b,b+1=(AU f).length->(AU f)[b]?= some (G6 f b)):=Lh fun b hq=>by rw[Ah (by omega),GM (i:=b) (by omega)]
 have ba:Hid (∀ k:Int,0<=k->EE speaker=k->Ev speaker [k]=true):=Lh fun k e cn=>by
  unfold EE at cn;split at cn
  ·rename_i q;unfold Ev;have:Cc speaker=1:=by unfold Cc;rw[BG] at q;omega
   simp[this,cn]
  ·omega
 obtain⟨b,hq⟩:∃ b,b+1=(AU f).length:=⟨(AU f).length-1,by omega⟩
 have P:Hid (∀ cq,Ey (G6 f cq)):=Lh fun cq=>IJ f cq
 have z:=ae.out;have B:=af.out b hq;have bu:=Lh hq;obtain⟨ab,M⟩:∃ x,x=G6 f 0:=⟨_,rfl⟩
 obtain⟨cp,N⟩:∃ x,x=G6 f (b:Int):=⟨_,rfl⟩
 have W:Ey ab:=by rw[M];exact P.out _
 have X:Ey cp:=by rw[N];exact P.out _
 rw[<- M] at z;rw[<- N] at B;have bw:=Lh M;have bx:=Lh N;have y:=Lh fun a n (ha:Ey a)=>FL a n ha
 obtain⟨c,L⟩:∃ c,c=AU f:=⟨_,rfl⟩
 obtain⟨Z,Y⟩:∃ x,x=EE speaker:=⟨_,rfl⟩
 rw[<- L] at ac z B bn ap;rw[<- Y] at ad;have ax:=Lh L;have az:=Lh Y;have bm:b+1=c.length:=by rw[L];exact hq
 have ce:0<=cp/8192:=by have:=X.1;omega
 have cf:cp/8192<=7:=by have:=X.2;omega
 have co:Hid (AX (w.alloc (.cells #[zI 3,zU signer,.string speaker,zS h i (t.length+1) k,zI frm,zI l,zI serial] 31)) w.heap.size 31 #[zI 3,zU signer,.string speaker,zS h i (t.length+1) k,zI frm,zI l,zI serial]):=Lh (AX.new w _ _);have d:Hid (Au w (w.alloc (.cells #[zI 3,zU signer,.string speaker,zS h i (t.length+1) k,zI frm,zI l,zI serial] 31))):=Lh ((Aa _ w).alloc _);clear hq M N L Y ae af P U am K;go_in;go_upto_region 1 with(fail)
 generalize w.alloc (.cells #[zI 3,zU signer,.string speaker,zS h i (t.length+1) k,zI frm,zI l,zI serial] 31)=bo at co d ⊢;obtain⟨g,S⟩:∃ g,g=w.heap.size:=⟨_,rfl⟩
 rw[<- S] at co ⊢;have bq:=Lh S;clear S;obtain⟨D,E,F,G,H,I,J⟩:=Bh co.out;have bd:Cl bo h i (.string f):=(d.out.cell (p:=zA h i) bk id).trans bl;go_upto_region 2 with(go_at_call 41;refine(ac.out _).mono ?_;rintro o ar ⟨v,rfl,r,e⟩;obtain⟨bp,ch,rfl⟩:=BD r;replace co:=Lh (co.out.Ab e id);replace d:=Lh (d.out.to e);clear e)
 clear D E F G H I J bd;obtain⟨D,E,F,G,H,I,J⟩:=Bh co.out;obtain⟨C,O,rfl,al,R⟩:=Ay.BV (V:=JC) (fun _=>rfl) (Ay.Ea (V:=JC) (fun _=>rfl) r) (j:=b) (by omega);obtain⟨ca,cj,hA3,_,Q⟩:=Ay.BV (V:=JC) (fun _=>rfl) (Ay.Ea (V:=JC) (fun _=>rfl) r) (j:=0) (by omega);cases hA3;have aj:c[b]=cp:=by have:=B;rw[Ah (by omega)] at this;injection this
 have ai:c[0]=ab:=by have:=z;rw[Ah (by omega)] at this;injection this
 rw[aj] at R;rw[ai] at Q;have ao:Cl ar C (O+b) (zU cp):=R;have an:Cl ar C O (zU ab):=Q;have ag:=Lh r;clear aj ai R Q r z B;have be:(0:Int)<=(c.length:Int)-1:=by omega
 have bf:(1:Int)<=(c.length:Int):=by omega
 have bg:(c.length:Int)-1<(c.length:Int):=by omega
 have bh:IntKind.i64.wrap ((c.length:Int)-1)=(b:Int):=by rw[IntKind.wrap_i64];omega
 have bi:((c.length:Int)-1)=(b:Int):=by omega
 have bj:(b:Int)<(c.length:Int):=by omega
 go_upto_region 3 with(go_at_call 17;refine(y.out _ _ X).mono ?_;rintro o aa ⟨rfl,rfl⟩)
 clear be bf bg bh bi bj ap;go_upto_region 4 with(go_at_call 43;refine(ad.out _).mono ?_;rintro o cl ⟨rfl,e⟩;replace co:=Lh (co.out.Ab e id);replace d:=Lh (d.out.to e);have cc:=(e.cell (p:=zA C (O+b)) al id).trans ao;have cb:=(e.cell (p:=zA C O) al id).trans an;replace ag:=Lh (Aj ag.out e fun _ _ cn=>cn);clear e)
 clear D E F G H I J ao an;obtain⟨D,E,F,G,H,I,J⟩:=Bh co.out;have bs:Hid (Cc f=(c.length:Int)):=Lh (by rw[ay.out,ax.out]);have br:=Lh bm;generalize c.length=m at *;generalize aq:cp/8192=cm at *;have bz:=Lh aq;clear aq;by_cases T:t.length=0
 ·have bc:((t.length+1:Int)==1)=true:=by rw[beq_iff_eq];omega
  have av:=Lh T;clear T;by_cases u:Z=2
  ·have bb:(Z==2)=true:=bT u;have au:=Lh u;clear u;have aw:Hid (Hz ⟨3,signer,speaker,f::t,frm,l,serial⟩ f/\t=[]):=Lh ⟨⟨(fun cn=>by cases cn),(fun cn=>by cases cn),fun _=>ba.out 2 (by omega) (by rw[<- az.out];exact au.out),(fun cn=>by cases cn),(fun cn=>by cases cn)⟩,Dl av.out⟩;go_wp2_with (go_at_call 17;refine(y.out _ _ W).mono ?_;rintro o aa ⟨rfl,rfl⟩);go_ret;exact⟨true,rfl,fun _=>aw.out,by first|exact d.out|exact d.out.drewN _⟩
  ·have bb:(Z==2)=false:=bF u;clear u;go_wp2_with (go_at_call 17;refine(y.out _ _ W).mono ?_;rintro o aa ⟨rfl,rfl⟩);go_ret;exact⟨false,rfl,(fun cn=>by cases cn),by first|exact d.out|exact d.out.drewN _⟩
 ·have bc:((t.length+1:Int)==1)=false:=by rw[Cs];omega
  clear T;go_wp2_with (go_at_call 17;refine(y.out _ _ W).mono ?_;rintro o aa ⟨rfl,rfl⟩);go_ret;exact⟨false,rfl,(fun cn=>by cases cn),by first|exact d.out|exact d.out.drewN _⟩
theorem jM (signer frm db serial:Int) (speaker f:BB) (t:List BB) (A:Option Addr) (k:Nat) (w:Bc) (cu:speaker.size<=100) (cr:f.size<=100) (N:CX f=true) (Z:Ay Value.string w w.heap.size 1 A (f::t)) :
  Calls Tryz.prog 21 #[.agg #[zI 4,zU signer,.string speaker,.slice A (t.length+1) k,zI frm,zI db,zI serial]] w (Jv (Hz ⟨4,signer,speaker,f::t,frm,db,serial⟩ f/\t=[]) w):=by
 have cj:=Lh N;have cl:=Lh Z;obtain⟨h,l,rfl,cb,av⟩:=Ay.BV (V:=Value.string) (fun _=>rfl) Z (j:=0) (by simp);have cc:Cl w h l (.string f):=av;have ah:=Lh fun r=>G7 f r (by omega)
 have ai:=Lh fun r=>I6 speaker r (by omega)
 have ce:1<=(AU f).length:=by
  obtain⟨_,q,_⟩:=E9 N;have:=BG f;unfold Cc at q;omega
 have ay:(AU f).length<=8:=by
  obtain⟨_,_,q,_⟩:=E9 N;have:=BG f;unfold Cc at q;omega
 have bi:Hid (Cc f=((AU f).length:Int)):=Lh (by rw[BG];rfl);have aj:Hid ((AU f)[0]?= some (G6 f 0)):=Lh (by rw[Ah (by omega)];have cz:=GM (s:=f) (i:=0) (by omega);exact Bu some cz.symm);have ak:Hid (∀ b,b+1=(AU f).length->(AU f)[b]?= some (G6 f b)):=Lh fun b hq=>by rw[Ah (by omega),GM (i:=b) (by omega)]
 have bl:Hid (∀ k:Int,0<=k->EE speaker=k->Ev speaker [k]=true):=Lh fun k e cz=>by
  unfold EE at cz;split at cz
  ·rename_i q;unfold Ev;have:Cc speaker=1:=by unfold Cc;rw[BG] at q;omega
   simp[this,cz]
  ·omega
 obtain⟨b,hq⟩:∃ b,b+1=(AU f).length:=⟨(AU f).length-1,by omega⟩
 have S:Hid (∀ z,Ey (G6 f z)):=Lh fun z=>IJ f z
 have D:=aj.out;have E:=ak.out b hq;have ck:=Lh hq;obtain⟨ae,P⟩:∃ C,C=G6 f 0:=⟨_,rfl⟩
 obtain⟨n,Q⟩:∃ C,C=G6 f (b:Int):=⟨_,rfl⟩
 have y:Ey ae:=by rw[P];exact S.out _
 have aa:Ey n:=by rw[Q];exact S.out _
 rw[<- P] at D;rw[<- Q] at E;have cm:=Lh P;have bj:=Lh Q;have o:=Lh fun a r (ha:Ey a)=>FL a r ha
 obtain⟨d,O⟩:∃ d,d=AU f:=⟨_,rfl⟩
 obtain⟨ad,ab⟩:∃ C,C=EE speaker:=⟨_,rfl⟩
 rw[<- O] at ah D E ce ay;rw[<- ab] at ai;have bg:=Lh O;have bk:=Lh ab;have cd:b+1=d.length:=by rw[O];exact hq
 have cs:0<=n/8192:=by have:=aa.1;omega
 have ct:n/8192<=7:=by have:=aa.2;omega
 have da:Hid (AX (w.alloc (.cells #[zI 4,zU signer,.string speaker,zS h l (t.length+1) k,zI frm,zI db,zI serial] 31)) w.heap.size 31 #[zI 4,zU signer,.string speaker,zS h l (t.length+1) k,zI frm,zI db,zI serial]):=Lh (AX.new w _ _);have c:Hid (Au w (w.alloc (.cells #[zI 4,zU signer,.string speaker,zS h l (t.length+1) k,zI frm,zI db,zI serial] 31))):=Lh ((Aa _ w).alloc _);clear hq P Q O ab aj ak S Z av N;go_in;go_upto_region 1 with(fail)
 generalize w.alloc (.cells #[zI 4,zU signer,.string speaker,zS h l (t.length+1) k,zI frm,zI db,zI serial] 31)=cg at da c ⊢;obtain⟨g,W⟩:∃ g,g=w.heap.size:=⟨_,rfl⟩
 rw[<- W] at da ⊢;have ci:=Lh W;clear W;obtain⟨G,H,I,J,K,L,M⟩:=Bh da.out;have br:Cl cg h l (.string f):=(c.out.cell (p:=zA h l) cb id).trans cc;go_upto_region 2 with(go_at_call 41;refine(ah.out _).mono ?_;rintro i ba ⟨v,rfl,u,e⟩;obtain⟨ch,cv,rfl⟩:=BD u;replace da:=Lh (da.out.Ab e id);replace c:=Lh (c.out.to e);clear e)
 clear G H I J K L M br;obtain⟨G,H,I,J,K,L,M⟩:=Bh da.out;obtain⟨F,R,rfl,au,U⟩:=Ay.BV (V:=JC) (fun _=>rfl) (Ay.Ea (V:=JC) (fun _=>rfl) u) (j:=b) (by omega);obtain⟨cn,cw,hA3,_,T⟩:=Ay.BV (V:=JC) (fun _=>rfl) (Ay.Ea (V:=JC) (fun _=>rfl) u) (j:=0) (by omega);cases hA3;have ao:d[b]=n:=by have:=E;rw[Ah (by omega)] at this;injection this
 have an:d[0]=ae:=by have:=D;rw[Ah (by omega)] at this;injection this
 rw[ao] at U;rw[an] at T;have ax:Cl ba F (R+b) (zU n):=U;have aw:Cl ba F R (zU ae):=T;have al:=Lh u;clear ao an U T u D E;have bs:(0:Int)<=(d.length:Int)-1:=by omega
 have bt:(1:Int)<=(d.length:Int):=by omega
 have bu:(d.length:Int)-1<(d.length:Int):=by omega
 have bv:IntKind.i64.wrap ((d.length:Int)-1)=(b:Int):=by rw[IntKind.wrap_i64];omega
 have bw:((d.length:Int)-1)=(b:Int):=by omega
 have bx:(b:Int)<(d.length:Int):=by omega
 go_upto_region 3 with(go_at_call 17;refine(o.out _ _ aa).mono ?_;rintro i B ⟨rfl,rfl⟩)
 clear bs bt bu bv bw bx ay;go_upto_region 4 with(go_at_call 43;refine(ai.out _).mono ?_;rintro i cy ⟨rfl,e⟩;replace da:=Lh (da.out.Ab e id);replace c:=Lh (c.out.to e);have cq:=(e.cell (p:=zA F (R+b)) au id).trans ax;have cp:=(e.cell (p:=zA F R) au id).trans aw;replace al:=Lh (Aj al.out e fun _ _ cz=>cz);clear e)
 clear G H I J K L M ax aw;obtain⟨G,H,I,J,K,L,M⟩:=Bh da.out;have bh:Hid (Cc f=(d.length:Int)):=Lh (by rw[bi.out,bg.out]);have bf:=Lh cd;generalize d.length=m at *;generalize az:n/8192=af at *;have bm:=Lh az;clear az;by_cases Y:t.length=0
 ·have bq:((t.length+1:Int)==1)=true:=by rw[beq_iff_eq];omega
  have bd:=Lh Y;clear Y;by_cases x:ad=3
  ·have bp:(ad==3)=true:=bT x;have bc:=Lh x;clear x;by_cases X:m=1
   ·have bo:((m:Int)==1)=true:=by rw[beq_iff_eq];omega
    have ag:=Lh X;clear X;by_cases dc:af=4
    ·have bn:(af==4)=true:=bT dc;have bb:=Lh dc;clear dc;have be:Hid (Hz ⟨4,signer,speaker,f::t,frm,db,serial⟩ f/\t=[]):=Lh ⟨⟨(fun cz=>by cases cz),(fun cz=>by cases cz),(fun cz=>by cases cz),fun _=>⟨bl.out 3 (by omega) (by rw[<- bk.out];exact bc.out),by(have cf:b=0:=(by have q:=ag.out;have co:=bf.out;omega));(have aq:=bj.out);rw[cf] at aq;(have bz:n=G6 f 0:=aq);(have ar:=bb.out);rw[<- bm.out,bz] at ar;(have ca:Cc f=1:=(by rw[bh.out];have:=ag.out;omega));unfold Ev;simp[ar,ca]⟩,(fun cz=>by cases cz)⟩,Dl bd.out⟩;go_wp2_with (go_at_call 17;refine(o.out _ _ y).mono ?_;rintro i B ⟨rfl,rfl⟩);go_ret;exact⟨true,rfl,fun _=>be.out,by first|exact c.out|exact c.out.drewN _⟩
    ·have bn:(af==4)=false:=bF dc;clear dc;go_wp2_with (go_at_call 17;refine(o.out _ _ y).mono ?_;rintro i B ⟨rfl,rfl⟩);go_ret;exact⟨false,rfl,(fun cz=>by cases cz),by first|exact c.out|exact c.out.drewN _⟩
   ·have bo:((m:Int)==1)=false:=by rw[Cs];omega
    clear X;go_wp2_with (go_at_call 17;refine(o.out _ _ y).mono ?_;rintro i B ⟨rfl,rfl⟩);go_ret;exact⟨false,rfl,(fun cz=>by cases cz),by first|exact c.out|exact c.out.drewN _⟩
  ·have bp:(ad==3)=false:=bF x;clear x;go_wp2_with (go_at_call 17;refine(o.out _ _ y).mono ?_;rintro i B ⟨rfl,rfl⟩);go_ret;exact⟨false,rfl,(fun cz=>by cases cz),by first|exact c.out|exact c.out.drewN _⟩
 ·have bq:((t.length+1:Int)==1)=false:=by rw[Cs];omega
  clear Y;go_wp2_with (go_at_call 17;refine(o.out _ _ y).mono ?_;rintro i B ⟨rfl,rfl⟩);go_ret;exact⟨false,rfl,(fun cz=>by cases cz),by first|exact c.out|exact c.out.drewN _⟩
theorem jN (signer frm o serial:Int) (speaker f:BB) (t:List BB) (A:Option Addr) (k:Nat) (w:Bc) (cu:speaker.size<=100) (cr:f.size<=100) (T:CX f=true) (al:Ay Value.string w w.heap.size 1 A (f::t)) :
  Calls Tryz.prog 21 #[.agg #[zI 5,zU signer,.string speaker,.slice A (t.length+1) k,zI frm,zI o,zI serial]] w (Jv (Hz ⟨5,signer,speaker,f::t,frm,o,serial⟩ f/\t=[]) w):=by
 have ck:=Lh T;have cm:=Lh al;obtain⟨r,db,rfl,cd,bh⟩:=Ay.BV (V:=Value.string) (fun _=>rfl) al (j:=0) (by simp);have ce:Cl w r db (.string f):=bh;have aq:=Lh fun B=>G7 f B (by omega)
 have ar:=Lh fun B=>I6 speaker B (by omega)
 have cg:1<=(AU f).length:=by
  obtain⟨_,C,_⟩:=E9 T;have:=BG f;unfold Cc at C;omega
 have bk:(AU f).length<=8:=by
  obtain⟨_,_,C,_⟩:=E9 T;have:=BG f;unfold Cc at C;omega
 have bq:Hid (Cc f=((AU f).length:Int)):=Lh (by rw[BG];rfl);have au:Hid ((AU f)[0]?= some (G6 f 0)):=Lh (by rw[Ah (by omega)];have cz:=GM (s:=f) (i:=0) (by omega);exact Bu some cz.symm);have av:Hid (∀ c,c+1=(AU f).length->(AU f)[c]?= some (G6 f c)):=Lh fun c hq=>by rw[Ah (by omega),GM (i:=c) (by omega)]
 have ba:Hid (∀ k:Int,0<=k->EE speaker=k->Ev speaker [k]=true):=Lh fun k h cz=>by
  unfold EE at cz;split at cz
  ·rename_i C;unfold Ev;have:Cc speaker=1:=by unfold Cc;rw[BG] at C;omega
   simp[this,cz]
  ·omega
 obtain⟨c,hq⟩:∃ c,c+1=(AU f).length:=⟨(AU f).length-1,by omega⟩
 have ac:Hid (∀ G,Ey (G6 f G)):=Lh fun G=>IJ f G
 have J:=au.out;have K:=av.out c hq;have cl:=Lh hq;obtain⟨ao,W⟩:∃ H,H=G6 f 0:=⟨_,rfl⟩
 obtain⟨y,X⟩:∃ H,H=G6 f (c:Int):=⟨_,rfl⟩
 have n:Ey ao:=by rw[W];exact ac.out _
 have am:Ey y:=by rw[X];exact ac.out _
 rw[<- W] at J;rw[<- X] at K;have cn:=Lh W;have ay:=Lh X;have l:=Lh fun a B (ha:Ey a)=>FL a B ha
 obtain⟨d,U⟩:∃ d,d=AU f:=⟨_,rfl⟩
 obtain⟨x,an⟩:∃ H,H=EE speaker:=⟨_,rfl⟩
 rw[<- U] at aq J K cg bk;rw[<- an] at ar;have bp:=Lh U;have az:=Lh an;have cf:c+1=d.length:=by rw[U];exact hq
 have cs:0<=y/8192:=by have:=am.1;omega
 have ct:y/8192<=7:=by have:=am.2;omega
 have m:Hid (AX (w.alloc (.cells #[zI 5,zU signer,.string speaker,zS r db (t.length+1) k,zI frm,zI o,zI serial] 31)) w.heap.size 31 #[zI 5,zU signer,.string speaker,zS r db (t.length+1) k,zI frm,zI o,zI serial]):=Lh (AX.new w _ _);have b:Hid (Au w (w.alloc (.cells #[zI 5,zU signer,.string speaker,zS r db (t.length+1) k,zI frm,zI o,zI serial] 31))):=Lh ((Aa _ w).alloc _);clear hq W X U an au av ac al bh T;go_in;go_upto_region 1 with(fail)
 generalize w.alloc (.cells #[zI 5,zU signer,.string speaker,zS r db (t.length+1) k,zI frm,zI o,zI serial] 31)=ch at m b ⊢;obtain⟨g,aj⟩:∃ g,g=w.heap.size:=⟨_,rfl⟩
 rw[<- aj] at m ⊢;have cj:=Lh aj;clear aj;obtain⟨M,N,O,P,Q,R,S⟩:=Bh m.out;have bu:Cl ch r db (.string f):=(b.out.cell (p:=zA r db) cd id).trans ce;go_upto_region 2 with(go_at_call 41;refine(aq.out _).mono ?_;rintro i bm ⟨v,rfl,D,h⟩;obtain⟨ci,cv,rfl⟩:=BD D;replace m:=Lh (m.out.Ab h id);replace b:=Lh (b.out.to h);clear h)
 clear M N O P Q R S bu;obtain⟨M,N,O,P,Q,R,S⟩:=Bh m.out;obtain⟨L,Y,rfl,bg,ai⟩:=Ay.BV (V:=JC) (fun _=>rfl) (Ay.Ea (V:=JC) (fun _=>rfl) D) (j:=c) (by omega);obtain⟨co,cw,hA3,_,ah⟩:=Ay.BV (V:=JC) (fun _=>rfl) (Ay.Ea (V:=JC) (fun _=>rfl) D) (j:=0) (by omega);cases hA3;have be:d[c]=y:=by have:=K;rw[Ah (by omega)] at this;injection this
 have bd:d[0]=ao:=by have:=J;rw[Ah (by omega)] at this;injection this
 rw[be] at ai;rw[bd] at ah;have bj:Cl bm L (Y+c) (zU y):=ai;have bi:Cl bm L Y (zU ao):=ah;have ax:=Lh D;clear be bd ai ah D J K;have bv:(0:Int)<=(d.length:Int)-1:=by omega
 have bw:(1:Int)<=(d.length:Int):=by omega
 have bx:(d.length:Int)-1<(d.length:Int):=by omega
 have bz:IntKind.i64.wrap ((d.length:Int)-1)=(c:Int):=by rw[IntKind.wrap_i64];omega
 have ca:((d.length:Int)-1)=(c:Int):=by omega
 have cb:(c:Int)<(d.length:Int):=by omega
 go_upto_region 3 with(go_at_call 17;refine(l.out _ _ am).mono ?_;rintro i q ⟨rfl,rfl⟩)
 clear bv bw bx bz ca cb bk;go_upto_region 4 with(go_at_call 43;refine(ar.out _).mono ?_;rintro i cy ⟨rfl,h⟩;replace m:=Lh (m.out.Ab h id);replace b:=Lh (b.out.to h);have cq:=(h.cell (p:=zA L (Y+c)) bg id).trans bj;have cp:=(h.cell (p:=zA L Y) bg id).trans bi;replace ax:=Lh (Aj ax.out h fun _ _ cz=>cz);clear h)
 clear M N O P Q R S bj bi;obtain⟨M,N,O,P,Q,R,S⟩:=Bh m.out;have I:Hid (Cc f=(d.length:Int)):=Lh (by rw[bq.out,bp.out]);have aw:=Lh cf;generalize d.length=e at *;generalize bl:y/8192=z at *;have bb:=Lh bl;clear bl;by_cases ak:t.length=0
 ·have bs:((t.length+1:Int)==1)=true:=by rw[beq_iff_eq];omega
  have ap:=Lh ak;clear ak;by_cases E:x=1
  ·have br:(x==1)=true:=bT E;have bn:=Lh E;clear E;by_cases u:1<e
   ·have af:decide ((e:Int) > 1)=true:=by rw[Bb];omega
    have ad:decide ((1:Int)<(e:Int))=true:=by rw[Bb];omega
    have aa:=Lh u;clear u;by_cases da:z=5
    ·have ae:(z==5)=true:=bT da;have Z:=Lh da;clear da;have ab:Hid (Hz ⟨5,signer,speaker,f::t,frm,o,serial⟩ f/\t=[]):=Lh ⟨⟨(fun cz=>by cases cz),(fun cz=>by cases cz),(fun cz=>by cases cz),(fun cz=>by cases cz),fun _=>⟨Ta (.inl rfl) (ba.out 1 (by omega) (by rw[<- az.out];exact bn.out)),by rw[I.out];have:=aa.out;omega,by rw[I.out];have cc:=aw.out;have ag:=ay.out;rw[show(e:Int)-1=(c:Int) by omega,<- ag,bb.out];exact Z.out⟩⟩,Dl ap.out⟩;go_wp2_with (go_at_call 17;refine(l.out _ _ n).mono ?_;rintro i q ⟨rfl,rfl⟩);go_ret;exact⟨true,rfl,fun _=>ab.out,by first|exact b.out|exact b.out.drewN _⟩
    ·have ae:(z==5)=false:=bF da;clear da;go_wp2_with (go_at_call 17;refine(l.out _ _ n).mono ?_;rintro i q ⟨rfl,rfl⟩);go_ret;exact⟨false,rfl,(fun cz=>by cases cz),by first|exact b.out|exact b.out.drewN _⟩
   ·have af:decide ((e:Int) > 1)=false:=by rw[Ag];omega
    have ad:decide ((1:Int)<(e:Int))=false:=by rw[Ag];omega
    clear u;go_wp2_with (go_at_call 17;refine(l.out _ _ n).mono ?_;rintro i q ⟨rfl,rfl⟩);go_ret;exact⟨false,rfl,(fun cz=>by cases cz),by first|exact b.out|exact b.out.drewN _⟩
  ·have br:(x==1)=false:=bF E;clear E;by_cases F:x=2
   ·have bt:(x==2)=true:=bT F;have bo:=Lh F;clear F;by_cases u:1<e
    ·have af:decide ((e:Int) > 1)=true:=by rw[Bb];omega
     have ad:decide ((1:Int)<(e:Int))=true:=by rw[Bb];omega
     have aa:=Lh u;clear u;by_cases da:z=5
     ·have ae:(z==5)=true:=bT da;have Z:=Lh da;clear da;have ab:Hid (Hz ⟨5,signer,speaker,f::t,frm,o,serial⟩ f/\t=[]):=Lh ⟨⟨(fun cz=>by cases cz),(fun cz=>by cases cz),(fun cz=>by cases cz),(fun cz=>by cases cz),fun _=>⟨Ta (.inr rfl) (ba.out 2 (by omega) (by rw[<- az.out];exact bo.out)),by rw[I.out];have:=aa.out;omega,by rw[I.out];have cc:=aw.out;have ag:=ay.out;rw[show(e:Int)-1=(c:Int) by omega,<- ag,bb.out];exact Z.out⟩⟩,Dl ap.out⟩;go_wp2_with (go_at_call 17;refine(l.out _ _ n).mono ?_;rintro i q ⟨rfl,rfl⟩);go_ret;exact⟨true,rfl,fun _=>ab.out,by first|exact b.out|exact b.out.drewN _⟩
     ·have ae:(z==5)=false:=bF da;clear da;go_wp2_with (go_at_call 17;refine(l.out _ _ n).mono ?_;rintro i q ⟨rfl,rfl⟩);go_ret;exact⟨false,rfl,(fun cz=>by cases cz),by first|exact b.out|exact b.out.drewN _⟩
    ·have af:decide ((e:Int) > 1)=false:=by rw[Ag];omega
     have ad:decide ((1:Int)<(e:Int))=false:=by rw[Ag];omega
     clear u;go_wp2_with (go_at_call 17;refine(l.out _ _ n).mono ?_;rintro i q ⟨rfl,rfl⟩);go_ret;exact⟨false,rfl,(fun cz=>by cases cz),by first|exact b.out|exact b.out.drewN _⟩
   ·have bt:(x==2)=false:=bF F;clear F;go_wp2_with (go_at_call 17;refine(l.out _ _ n).mono ?_;rintro i q ⟨rfl,rfl⟩);go_ret;exact⟨false,rfl,(fun cz=>by cases cz),by first|exact b.out|exact b.out.drewN _⟩
 ·have bs:((t.length+1:Int)==1)=false:=by rw[Cs];omega
  clear ak;go_wp2_with (go_at_call 17;refine(l.out _ _ n).mono ?_;rintro i q ⟨rfl,rfl⟩);go_ret;exact⟨false,rfl,(fun cz=>by cases cz),by first|exact b.out|exact b.out.drewN _⟩
theorem jO (signer frm r serial:Int) (speaker f:BB) (t:List BB) (A:Option Addr) (k:Nat) (w:Bc) (bz:speaker.size<=100) (bv:f.size<=100) (H:CX f=true) (R:Ay Value.string w w.heap.size 1 A (f::t)) :
  Calls Tryz.prog 21 #[.agg #[zI 6,zU signer,.string speaker,.slice A (t.length+1) k,zI frm,zI r,zI serial]] w (Jv (True) w):=by
 have bk:=Lh H;have bm:=Lh R;obtain⟨ci,i,rfl,az,ah⟩:=Ay.BV (V:=Value.string) (fun _=>rfl) R (j:=0) (by simp);have ba:Cl w ci i (.string f):=ah;have W:=Lh fun cj=>G7 f cj (by omega)
 have Y:=Lh fun cj=>I6 speaker cj (by omega)
 have bc:1<=(AU f).length:=by
  obtain⟨_,n,_⟩:=E9 H;have:=BG f;unfold Cc at n;omega
 have ak:(AU f).length<=8:=by
  obtain⟨_,_,n,_⟩:=E9 H;have:=BG f;unfold Cc at n;omega
 have ap:Hid (Cc f=((AU f).length:Int)):=Lh (by rw[BG];rfl);have Z:Hid ((AU f)[0]?= some (G6 f 0)):=Lh (by rw[Ah (by omega)];have h:=GM (s:=f) (i:=0) (by omega);exact Bu some h.symm);have aa:Hid (∀ ch,ch+1=(AU f).length->(AU f)[ch]?= some (G6 f ch)):=Lh fun ch hq=>by rw[Ah (by omega),GM (i:=ch) (by omega)]
 have bq:Hid (∀ k:Int,0<=k->EE speaker=k->Ev speaker [k]=true):=Lh fun k c h=>by
  unfold EE at h;split at h
  ·rename_i n;unfold Ev;have:Cc speaker=1:=by unfold Cc;rw[BG] at n;omega
   simp[this,h]
  ·omega
 obtain⟨ch,hq⟩:∃ ch,ch+1=(AU f).length:=⟨(AU f).length-1,by omega⟩
 have M:Hid (∀ q,Ey (G6 f q)):=Lh fun q=>IJ f q
 have ck:=Z.out;have x:=aa.out ch hq;have bl:=Lh hq;obtain⟨U,J⟩:∃ u,u=G6 f 0:=⟨_,rfl⟩
 obtain⟨l,K⟩:∃ u,u=G6 f (ch:Int):=⟨_,rfl⟩
 have bd:Ey U:=by rw[J];exact M.out _
 have S:Ey l:=by rw[K];exact M.out _
 rw[<- J] at ck;rw[<- K] at x;have bn:=Lh J;have bo:=Lh K;have X:=Lh fun a cj (ha:Ey a)=>FL a cj ha
 obtain⟨b,I⟩:∃ b,b=AU f:=⟨_,rfl⟩
 obtain⟨cf,T⟩:∃ u,u=EE speaker:=⟨_,rfl⟩
 rw[<- I] at W ck x bc ak;rw[<- T] at Y;have ao:=Lh I;have bp:=Lh T;have bb:ch+1=b.length:=by rw[I];exact hq
 have bw:0<=l/8192:=by have:=S.1;omega
 have bx:l/8192<=7:=by have:=S.2;omega
 have d:Hid (AX (w.alloc (.cells #[zI 6,zU signer,.string speaker,zS ci i (t.length+1) k,zI frm,zI r,zI serial] 31)) w.heap.size 31 #[zI 6,zU signer,.string speaker,zS ci i (t.length+1) k,zI frm,zI r,zI serial]):=Lh (AX.new w _ _);have e:Hid (Au w (w.alloc (.cells #[zI 6,zU signer,.string speaker,zS ci i (t.length+1) k,zI frm,zI r,zI serial] 31))):=Lh ((Aa _ w).alloc _);clear hq J K I T Z aa M R ah H;go_in;go_upto_region 1 with(fail)
 generalize w.alloc (.cells #[zI 6,zU signer,.string speaker,zS ci i (t.length+1) k,zI frm,zI r,zI serial] 31)=be at d e ⊢;obtain⟨g,Q⟩:∃ g,g=w.heap.size:=⟨_,rfl⟩
 rw[<- Q] at d ⊢;have bh:=Lh Q;clear Q;obtain⟨z,B,C,D,E,F,G⟩:=Bh d.out;have aq:Cl be ci i (.string f):=(e.out.cell (p:=zA ci i) az id).trans ba;go_upto_region 2 with(go_at_call 41;refine(W.out _).mono ?_;rintro N am ⟨v,rfl,o,c⟩;obtain⟨bg,ca,rfl⟩:=BD o;replace d:=Lh (d.out.Ab c id);replace e:=Lh (e.out.to c);clear c)
 clear z B C D E F G aq;obtain⟨z,B,C,D,E,F,G⟩:=Bh d.out;obtain⟨y,L,rfl,ag,P⟩:=Ay.BV (V:=JC) (fun _=>rfl) (Ay.Ea (V:=JC) (fun _=>rfl) o) (j:=ch) (by omega);obtain⟨bs,cc,hA3,_,O⟩:=Ay.BV (V:=JC) (fun _=>rfl) (Ay.Ea (V:=JC) (fun _=>rfl) o) (j:=0) (by omega);cases hA3;have ae:b[ch]=l:=by have:=x;rw[Ah (by omega)] at this;injection this
 have ad:b[0]=U:=by have:=ck;rw[Ah (by omega)] at this;injection this
 rw[ae] at P;rw[ad] at O;have aj:Cl am y (L+ch) (zU l):=P;have ai:Cl am y L (zU U):=O;have ab:=Lh o;clear ae ad P O o ck x;have ar:(0:Int)<=(b.length:Int)-1:=by omega
 have au:(1:Int)<=(b.length:Int):=by omega
 have av:(b.length:Int)-1<(b.length:Int):=by omega
 have aw:IntKind.i64.wrap ((b.length:Int)-1)=(ch:Int):=by rw[IntKind.wrap_i64];omega
 have ax:((b.length:Int)-1)=(ch:Int):=by omega
 have ay:(ch:Int)<(b.length:Int):=by omega
 go_upto_region 3 with(go_at_call 17;refine(X.out _ _ S).mono ?_;rintro N bf ⟨rfl,rfl⟩)
 clear ar au av aw ax ay ak;go_upto_region 4 with(go_at_call 43;refine(Y.out _).mono ?_;rintro N ce ⟨rfl,c⟩;replace d:=Lh (d.out.Ab c id);replace e:=Lh (e.out.to c);have bu:=(c.cell (p:=zA y (L+ch)) ag id).trans aj;have bt:=(c.cell (p:=zA y L) ag id).trans ai;replace ab:=Lh (Aj ab.out c fun _ _ h=>h);clear c)
 clear z B C D E F G aj ai;obtain⟨z,B,C,D,E,F,G⟩:=Bh d.out;have bj:Hid (Cc f=(b.length:Int)):=Lh (by rw[ap.out,ao.out]);have bi:=Lh bb;generalize b.length=m at *;generalize al:l/8192=cg at *;have br:=Lh al;clear al;have an:Hid True:=Lh trivial;go_wp2_with (go_at_call 17;refine(X.out _ _ bd).mono ?_;rintro N bf ⟨rfl,rfl⟩);go_ret;exact⟨true,rfl,fun _=>an.out,by first|exact e.out|exact e.out.drewN _⟩
end

end Go.Proofs.YtcjcndnjpedniaaGreat
