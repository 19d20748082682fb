/- A part of the proof of TopUsers. -/
import Derived.Test.YtcjcndnjpedniaaGreatB16
namespace Go.Proofs.YtcjcndnjpedniaaGreat
set_option linter.all false
set_option maxRecDepth 100000
set_option maxHeartbeats 8000000
open Go.RowKit
section
variable {w w' W w0:Bc} {p:Nat} {rest:List UInt8}
theorem M6:(Tryz.prog.info? 31).map (fun i=>(i.zero,i.size,i.bytes))=some (some (.agg #[zO,zU 0,zE,zN,zO,zO,zO]),7,80):=by kernel_rfl
theorem V6:∀ z:Ed,(Gy z).cells.size=7:=fun _=>rfl
def Gh (n:Nat) (A:Option Addr) (Z:List Ed):Prop:=(∀ a,A=some a->n<=a.block)/\∀ b∈Z,∀ a,b.A=some a->n<=a.block
theorem Ay.Qy {i : Type} {V:i->Value} {size n:Nat} {A:Option Addr} {xs:List i} {S:Nat->Prop} (j:Ay V w w.heap.size size A xs) (r:∀ b,A=some b->n<=b.block) (d:Am S w w') (l:∀ k,n<=k->¬S k):Ay V w' w'.heap.size size A xs:=by
 intro g q;obtain⟨a,h,c,e,m⟩:=j g q;refine⟨a,h,c,Bj e d.size,fun f o=>?_⟩;rw[d.cell (p:=zA a (h+g*size+f)) e (l a (r _ c))];exact m f o
theorem Dt.Ab {n:Nat} {A:Option Addr} {Z:List Ed} {S:Nat->Prop} (a:Dt w A Z) (d:Gh n A Z) (c:Am S w w') (b:∀ k,n<=k->¬S k):Dt w' A Z :=
 ⟨a.r.Qy d.1 c b,fun f e=>(a.s f e).Qy (d.2 f e) c b⟩
def fV (w:Bc) (p:Nat) (L:List Ca) (rest:List UInt8) (e:Ending) (w':Bc):Prop :=
 ∃ (a:Option Addr) (d:Nat) (b:List Ed),e= .returned (.tuple #[.slice a L.length d,.bool true])/\b.map (·.c)=L/\Dt w' a b/\Gh w.heap.size a b/\BP w' p rest/\Am (fun f=>f=p) w w'
theorem Qk {L:List Ca} (a:BP w p (Gq L++rest)) (C:∀ c∈L,Cn c) (bu:L.length<=8) :
  Calls Tryz.prog 178 #[zP p,.func (.func 125) #[zP p] #[]] w (fV w p L rest):=by
 obtain⟨bk,bd,bg,bh,bi⟩:=info_parts M6;have ah:BP w p (BL L.length++((L.flatMap fun c=>IW (Dy (Db c)))++rest)):=by
  unfold Gq at a
  rwa [BJ] at a
 have T:=Lh (Ej (most:=8) ah (by omega) (by omega));have ap:=Lh fun W c (E:c∈L) rest (a:BP W p (IW (Dy (Db c))++rest))=>XN (most:=4000) a (by rw[E5];have:=JE (C c E);omega) (by rw[E5];have:=JE (C c E);omega)
 have an:=Lh fun W c (E:c∈L)=>V8 c (Dy (Db c)) W (C c E) (Nn _)
 have bv:(0:Int)<=(L.length:Int):=by omega
 clear a ah C;go_in;go_wp2_with (go_at_call 125;refine T.out.mono ?_;rintro B bz ⟨rfl,x,k⟩;have l:=Lh x;have m:=Lh k;clear x k);clear T;go_loopg [6,11] L.length fun gk v i wr=>∃ (e:Nat) (f:List Ed),e+gk=L.length/\i=zI e/\Hid (f.map (·.c)=L.take e)/\Hid (wr.ownsRow w.heap.size 31 7 v e (BN Gy f))/\Hid (∀ b∈f,wr.ownsRow w.heap.size 27 1 (.slice b.A b.c.Bl.length b.k) b.c.Bl.length (b.c.Bl.map Value.string))/\Hid (BP wr p (((L.drop e).flatMap fun c=>IW (Dy (Db c)))++rest))/\Hid (Am (fun q=>q=p) w wr)
 case atStart=>exact⟨0,[],by omega,rfl,Lh rfl,Lh (World.ownsRow_nil _ _ _ _),Lh (fun b d=>by cases d),Lh (by rw[List.drop_zero];exact l.out),m⟩
 case round =>
  clear l m;obtain⟨e,f,bt,rfl,N,j,u,l,m⟩:=hrel;by_cases Q:e<L.length
  ·obtain⟨c,D⟩:∃ c,c=L[e]:=⟨_,rfl⟩
   have aj:c∈L:=by rw[D];exact Br Q
   have ay:Hid (L.take (e+1)=L.take e++[c]):=Lh (by rw[AP Q,D]);have F:Hid (BP wr p (IW (Dy (Db c))++(((L.drop (e+1)).flatMap fun c=>IW (Dy (Db c)))++rest))):=Lh (by
    have cg:=l.out;rw[Fa Q,<- D,CY,BJ] at cg;exact cg)
   have aq:=Lh fun W rest a=>ap.out W c aj rest a
   have ao:Hid (∀ W,Calls Tryz.prog 209 #[.string (Dy (Db c))] W fun B w'=>∃ S cf,B= .returned (.tuple #[.agg #[zI c.kind,zU c.Aq,.string c.Ad,.slice S c.Bl.length cf,zI c.BX,zI c.till,zI c.AO],zO])/\w'.ownsRow W.heap.size 27 1 (.slice S c.Bl.length cf) c.Bl.length (c.Bl.map Value.string)/\Au W w'):=Lh fun W=>an.out W c aj
   have R:f.length=e:=by
    have:=Bu List.length N.out;rw[Be,BA] at this;omega
   have bx:(0:Int)<=(e:Int):=by omega
   have bl:(e:Int)<(L.length:Int):=by omega
   obtain⟨s,A,rfl⟩:=BD j.out;have bq:=Lh m.out.size;clear D l;go_upto_region 5 with(first
    |(go_at_call 210;refine(aq.out _ _ F.out).mono ?_;rintro B ca ⟨rfl,x,k⟩;have O:=F.out;have Y:=Lh (Aj j.out k (BP.own O j.out (by decide)));have ab:=Lh (fun b d=>Aj (u.out b d) k (BP.own O (u.out b d) (by decide)));have I:=Lh (m.out.AJ k fun _ _ a=>a);have U:=Lh x;clear x k O)
    |(go_at_call 209;refine(ao.out _).mono ?_;have al:=I.out.size;rintro B cd ⟨cc,h,rfl,ai,ce⟩;have Z:=Lh (Aj Y.out ce fun _ _ a=>a);have ac:=Lh fun b d=>Aj (ab.out b d) ce fun _ _ a=>a;have ae:=Lh (Du ai al);have X:=Lh (U.out.AB ce);have ad:=Lh (I.out.AJ ce fun _ _ a=>a.elim);clear ce ai al))
   have n:Au cd (cd.alloc (.cells #[zI c.kind,zU c.Aq,.string c.Ad,.slice cc c.Bl.length h,zI c.BX,zI c.till,zI c.AO] 31)):=(Aa _ cd).alloc _;have M:Hid (AX (cd.alloc (.cells #[zI c.kind,zU c.Aq,.string c.Ad,.slice cc c.Bl.length h,zI c.BX,zI c.till,zI c.AO] 31)) cd.heap.size 31 #[zI c.kind,zU c.Aq,.string c.Ad,.slice cc c.Bl.length h,zI c.BX,zI c.till,zI c.AO]):=Lh (AX.new cd _ _);have aa:=Lh (Aj Z.out n fun _ _ a=>a);have H:=Lh fun b d=>Aj (ac.out b d) n fun _ _ a=>a
   have K:=Lh (Aj ae.out n fun _ _ a=>a);have G:=Lh (X.out.AB n);have J:=Lh (ad.out.alloc (.cells #[zI c.kind,zU c.Aq,.string c.Ad,.slice cc c.Bl.length h,zI c.BX,zI c.till,zI c.AO] 31));generalize cd.alloc (.cells #[zI c.kind,zU c.Aq,.string c.Ad,.slice cc c.Bl.length h,zI c.BX,zI c.till,zI c.AO] 31)=z at M aa H K G J n ⊢;clear n Y ab I U Z ac ae X ad j u F;obtain⟨cb,am⟩:∃ r,r=cd.heap.size:=⟨_,rfl⟩
   rw[<- am] at M ⊢;clear am;have o:=aa.out;have bw:=J.out.size;go_wp2_with (first
    |(refine AA rfl (.tmp 7) rfl rfl M.out Tryz.underlying31 rfl Cg ?_)
    |(at_builtin;go_must (refine wpList_append_lies _ rfl (.tmp 21) (.tmp 23) 23 rfl w.heap.size 31 bk _ 7 80 Tryz.underlying23 bd bg bh bi rfl (by omega) (.slice s e A) e _ rfl (o.alloc _) (zA z.heap.size 0) 1 1 [zI c.kind,zU c.Aq,.string c.Ad,.slice cc c.Bl.length h,zI c.BX,zI c.till,zI c.AO] rfl rfl (World.news_of_block (cs:=#[zI c.kind,zU c.Aq,.string c.Ad,.slice cc c.Bl.length h,zI c.BX,zI c.till,zI c.AO]) (t:=31) (fr:=(0,0)) (heap_alloc_new z _)) (by simp[Value.oneCell']) (by omega) (by unfold maxLen;omega) (by omega) (by simp;omega) (z.heap.size+1) (by simp) ?_);intro bs br bp ag ak bc bf))
   have y:Am (fun cf=>(Value.slice s e A).ownBlock=some cf) z bp:=((Aa _ z).alloc _).grown ak fun cf a _=>a
   have au:=Lh ag;have aw:=Lh fun b d=>Aj (H.out b d) y fun g P a=>Ex o (H.out b d) (by decide) a P
   have az:=Lh (Aj K.out y fun g P a=>Ex o K.out (by decide) a P);have ar:=Lh (G.out.Ab y fun a=>BP.own G.out o (by decide) p a rfl);have ax:=Lh (J.out.AJ y fun cf ce a=>Bv (BQ o a) (by omega));clear y ag ak bc bf o;go_roundg (gk-1)
   case measure=>omega
   case rel =>
    refine⟨e+1,f++[⟨c,cc,h⟩],by omega,by go_num,Lh (by rw[Bw,N.out,ay.out];rfl),Lh (by rw[Ez];exact au.out),Lh fun b d=>?_,ar,ax⟩;rcases Bd.1 d with d|d
    ·exact aw.out b d
    ·rw[Ai.1 d];exact az.out
  ·have be:e=L.length:=by omega
   subst be;have bl:¬(L.length:Int)<(L.length:Int):=by omega
   obtain⟨s,A,rfl⟩:=BD j.out;have af:Hid (f.map (·.c)=L):=Lh (by rw[N.out,Cr]);have R:f.length=L.length:=by rw[<- af.out,Be]
   have av:Hid (Ay Gy wr wr.heap.size 7 s f):=Lh (Ay.Hu (V:=Gy) V6 (by rw[R];exact j.out));clear R;go_wp2;go_ret2;refine⟨s,A,f,rfl,af.out,⟨av.out,fun b d=>Ay.Ea (V:=Value.string) (fun _=>rfl) (u.out b d)⟩,⟨fun ba a=>BQ j.out (by rw[a];rfl),fun b d ba a=>BQ (u.out b d) (by rw[a];rfl)⟩,?_,m.out⟩;have cg:=l.out;rw[List.drop_length,List.flatMap_nil,BU] at cg;exact cg
def oH (w:Bc) (p:Nat) (op arg:Int) (rest:List UInt8) (e:Ending) (w':Bc):Prop :=
 e= .returned (.agg #[zO,zI op,zI arg,zO,zN])/\BP w' p rest/\Am (fun a=>a=p) w w'
theorem dC {op arg:Int} (f:BP w p (BL 0++(BL op.toNat++(BL arg.toNat++rest)))) (ha:G8 op arg) :
  Calls Tryz.prog 179 #[zP p,.func (.func 125) #[zP p] #[]] w (oH w p op arg rest):=by
 obtain⟨t,z,A,_⟩:=ha;have C:0<=op:=by omega
 have D:op<=1:=by omega
 have o:Hid (∀ W rest,BP W p (BL ((0:Int)).toNat++rest)->Calls Tryz.prog 125 #[zP p,zI 3] W (Rt (zI ((0:Int))) fun w'=>BP w' p rest/\Am (fun i=>i=p) W w')):=by
  intro W rest j;have:=Ej (most:=3) j (by omega) (by omega);have d:((((0:Int)).toNat:Nat):Int)=(0:Int):=by omega
  rwa [d] at this
 have q:Hid (∀ W rest,BP W p (BL (op).toNat++rest)->Calls Tryz.prog 125 #[zP p,zI 3] W (Rt (zI (op)) fun w'=>BP w' p rest/\Am (fun i=>i=p) W w')):=by
  intro W rest j;have:=Ej (most:=3) j (by omega) (by omega);have d:(((op).toNat:Nat):Int)=op:=by omega
  rwa [d] at this
 have r:Hid (∀ W rest,BP W p (BL (arg).toNat++rest)->Calls Tryz.prog 125 #[zP p,zI 4611686018427387904] W (Rt (zI (arg)) fun w'=>BP w' p rest/\Am (fun i=>i=p) W w')):=by
  intro W rest j;have:=Ej (most:=4611686018427387904) j (by omega) (by omega);have d:(((arg).toNat:Nat):Int)=arg:=by omega
  rwa [d] at this
 have E:(op==2)=false:=bF;have F:(op==3)=false:=bF;have a:Hid (AX (w.alloc (.cells #[zO,zO,zO,zO,zN] 48)) w.heap.size 48 #[zO,zO,zO,zO,zN]):=Lh (AX.new w _ _);have c:Hid (Am (fun x=>x=p) w (w.alloc (.cells #[zO,zO,zO,zO,zN] 48))):=Lh ((Aa _ w).alloc _);have b:Hid (BP (w.alloc (.cells #[zO,zO,zO,zO,zN] 48)) p (BL ((0:Int)).toNat++(BL op.toNat++(BL arg.toNat++rest)))):=Lh (f.AB ((Aa _ w).alloc _));clear f t;go_in;go_upto_region 1 with(fail)
 obtain⟨G,l⟩:∃ y,y=w.heap.size:=⟨_,rfl⟩
 generalize w.alloc (.cells #[zO,zO,zO,zO,zN] 48)=H at a c b ⊢;rw[<- l] at a ⊢;have n:=Lh l;clear l;go_upto_region 2 with(first
  |(go_at_call 125;(with_reducible refine(o.out _ _ b.out).mono ?_);rintro d h ⟨rfl,g,e⟩;replace a:=Lh (a.out.Ab e (BP.far b.out a.out (by decide)));replace c:=Lh (c.out.AJ e fun _ _ f=>f);replace b:=Lh g;clear e g)
  |(go_at_call 125;(with_reducible refine(q.out _ _ b.out).mono ?_);rintro d h ⟨rfl,g,e⟩;replace a:=Lh (a.out.Ab e (BP.far b.out a.out (by decide)));replace c:=Lh (c.out.AJ e fun _ _ f=>f);replace b:=Lh g;clear e g)
  |(go_at_call 125;(with_reducible refine(r.out _ _ b.out).mono ?_);rintro d h ⟨rfl,g,e⟩;replace a:=Lh (a.out.Ab e (BP.far b.out a.out (by decide)));replace c:=Lh (c.out.AJ e fun _ _ f=>f);replace b:=Lh g;clear e g))
 have k:Hid (AX (h.alloc (.cells #[zO,zI op,zI arg,zO,zN] 48)) h.heap.size 48 #[zO,zI op,zI arg,zO,zN]):=Lh (AX.new h _ _);replace a:=Lh (a.out.alloc (.cells #[zO,zI op,zI arg,zO,zN] 48));replace c:=Lh (c.out.alloc (.cells #[zO,zI op,zI arg,zO,zN] 48));replace b:=Lh (b.out.AB ((Aa _ h).alloc (.cells #[zO,zI op,zI arg,zO,zN] 48)));generalize h.alloc (.cells #[zO,zI op,zI arg,zO,zN] 48)=I at a c b k ⊢;have K:=k.out.cell 0;have L:=k.out.cell 1;go_wp2_with (first
  |(refine AA rfl (.tmp 5) rfl rfl k.out Tryz.underlying48 rfl IE ?_)
  |(refine Bo rfl (.tmp 4) (.tmp 29) rfl rfl (cs':=#[zO,zI op,zI arg,zO,zN]) rfl a.out IE rfl (by simp[Value.oneCell']) ?_;intro J s m u;clear u))
 refine bodyPost_ret (v:=.agg #[zO,zI op,zI arg,zO,zN]) (Gz (p:=4) Tryz.results179 _ rfl s Tryz.underlying48 rfl IE) rfl ?_;exact⟨rfl,b.out.Ab m fun d=>BP.far b.out a.out (by decide) d.symm,c.out.AJ m fun i B d=>by have:=n.out;omega⟩
end

section
variable {w w' W w0:Bc} {p:Nat}
def rA (w:Bc) (p:Nat) (cs:Array Value) (e:Ending) (w':Bc):Prop:=e= .returned (.tuple #[.agg cs,.bool true])/\BP w' p []/\Am (fun a=>a=p) w w'
def oJ (w:Bc) (p:Nat) (F:Value->Array Value) (L:List Ca) (e:Ending) (w':Bc):Prop :=
 ∃ (a:Option Addr) (d:Nat) (b:List Ed),e= .returned (.tuple #[.agg (F (.slice a L.length d)),.bool true])/\b.map (·.c)=L/\Dt w' a b/\Gh w.heap.size a b/\BP w' p []/\Am (fun f=>f=p) w w'
theorem XL:(Tryz.prog.info? 48).map (·.size)=some 5:=by kernel_rfl
theorem Gh.mono {n m:Nat} {A:Option Addr} {Z:List Ed} (c:Gh n A Z) (d:m<=n):Gh m A Z:=⟨fun a b=>AV d (c.1 a b),fun f e a b=>AV d (c.2 f e a b)⟩
def Wt:Nat->List Value->Array Value->Array Value
 |_,[],cs=>cs
 |a,v::r,cs=>Wt (a+1) r (cs.setIfInBounds a v)
theorem AX.setCells {g:Nat} {t:TypeId}:∀ (vs:List Value) (a:Nat) (w:Bc) (cs:Array Value),AX w g t cs->AX (w.setCells g a vs) g t (Wt a vs cs)
 |[],_,_,_,b=>b
 |v::r,a,_,_,b=>AX.setCells r (a+1) _ _ (b.Dw a v)
theorem Lg (g:Nat):∀ (vs:List Value) (a:Nat) (w:Bc),Am (fun i=>i=g) w (w.setCells g a vs)
 |[],_,w=>Aa _ w
 |v::r,a,w=>((Aa (fun i=>i=g) w).setCell (p:=zA g a) (fun _=>rfl) v).AJ (Lg g r (a+1) _) fun _ _ b=>b
theorem IX {P:Program} {d:Array Oper} {rest:List Oper} {b:Oper} {a:Act} {Q:Exit->Act->Bc->Prop} {g:Nat} {t ty:TypeId} {cs cs' vs:Array Value} (j:b.guard=none) (x y:Operand) (l:b.op= .store ty x y) (n:Nat)
  (hx:a.eval x= .pointer (some (zA g n))) (m:a.eval y= .agg vs) (c:AX w g t cs) (k:(P.info? ty).map (·.size)=some vs.size) (p:n+vs.size<=cs.size) (f:vs.all (·.oneCell')=true) (h:Wt n vs.toList cs=cs')
  (e:∀ w',AX w' g t cs'->Am (fun i=>i=g) w w'->wpList P d Q rest (a.put b.dst undef) w'):wpList P d Q (b::rest) a w:=by
 subst h;refine wpList_store_mid j ty x y l g n vs hx m (fun q o=>⟨?_,c.frozen _⟩) k f (e _ (c.setCells _ _ _ _) (Lg g _ _ _));rw[c.cell,EZ (by omega)];rfl
theorem jF {ch seq op arg:Int} (k:BP w p (BL 2++(BL ch.toNat++(BL seq.toNat++(BL 0++(BL op.toNat++(BL arg.toNat++[]))))))) (N:Ey ch) (Q:0<=seq) (hs1:seq<=1000) (ha:G8 op arg) :
  Calls Tryz.prog 140 #[zP p,.func (.func 125) #[zP p] #[]] w (rA w p #[zI 2,zU ch,zI seq,zO,zI op,zI arg,zO,zN,zO,zO,zE,zN]):=by
 obtain⟨R,S⟩:=N;have F:Hid (∀ W rest,BP W p (BL ((2:Int)).toNat++rest)->Calls Tryz.prog 125 #[zP p,zI 5] W (Rt (zI ((2:Int))) fun w'=>BP w' p rest/\Am (fun n=>n=p) W w')):=by
  intro W rest q;have:=Ej (most:=5) q (by omega) (by omega);have e:((((2:Int)).toNat:Nat):Int)=(2:Int):=by omega
  rwa [e] at this
 have G:Hid (∀ W rest,BP W p (BL (ch).toNat++rest)->Calls Tryz.prog 125 #[zP p,zI 65535] W (Rt (zI (ch)) fun w'=>BP w' p rest/\Am (fun n=>n=p) W w')):=by
  intro W rest q;have:=Ej (most:=65535) q (by omega) (by omega);have e:(((ch).toNat:Nat):Int)=ch:=by omega
  rwa [e] at this
 have H:Hid (∀ W rest,BP W p (BL (seq).toNat++rest)->Calls Tryz.prog 125 #[zP p,zI 4611686018427387904] W (Rt (zI (seq)) fun w'=>BP w' p rest/\Am (fun n=>n=p) W w')):=by
  intro W rest q;have:=Ej (most:=4611686018427387904) q (by omega) (by omega);have e:(((seq).toNat:Nat):Int)=seq:=by omega
  rwa [e] at this
 have I:Hid (∀ W rest,BP W p (BL 0++(BL op.toNat++(BL arg.toNat++rest)))->Calls Tryz.prog 179 #[zP p,.func (.func 125) #[zP p] #[]] W (Rt (.agg #[zO,zI op,zI arg,zO,zN]) fun w'=>BP w' p rest/\Am (fun h=>h=p) W w')):=Lh fun W rest k=>dC k ha
 have b:Hid (AX (w.alloc (.cells #[zO,zU 0,zO,zO,zO,zO,zO,zN,zO,zO,zE,zN] 104)) w.heap.size 104 #[zO,zU 0,zO,zO,zO,zO,zO,zN,zO,zO,zE,zN]):=Lh (AX.new w _ _);have d:Hid (Am (fun h=>h=p) w (w.alloc (.cells #[zO,zU 0,zO,zO,zO,zO,zO,zN,zO,zO,zE,zN] 104))):=Lh ((Aa _ w).alloc _);have a:Hid (BP (w.alloc (.cells #[zO,zU 0,zO,zO,zO,zO,zO,zN,zO,zO,zE,zN] 104)) p (BL ((2:Int)).toNat++(BL ch.toNat++(BL seq.toNat++(BL 0++(BL op.toNat++(BL arg.toNat++[]))))))):=Lh (k.AB ((Aa _ w).alloc _));clear k ha;go_in;go_upto_region 1 with(fail)
 obtain⟨O,u⟩:∃ x,x=w.heap.size:=⟨_,rfl⟩
 generalize w.alloc (.cells #[zO,zU 0,zO,zO,zO,zO,zO,zN,zO,zO,zE,zN] 104)=T at b d a ⊢;rw[<- u] at b ⊢;have E:=Lh u;clear u;go_upto_region 2 with(go_at_call 125;refine(F.out _ _ a.out).mono ?_;rintro e f ⟨rfl,l,g⟩;have i:=a.out;replace b:=Lh (b.out.Ab g (BP.far i b.out (by decide)));replace d:=Lh (d.out.AJ g fun _ _ k=>k);replace a:=Lh l;clear g l i)
 have c:Hid (AX (f.alloc (.cells #[zI 2,zU 0,zO,zO,zO,zO,zO,zN,zO,zO,zE,zN] 104)) f.heap.size 104 #[zI 2,zU 0,zO,zO,zO,zO,zO,zN,zO,zO,zE,zN]):=Lh (AX.new f _ _);have r:Hid (O≠f.heap.size):=Lh (by have:=b.out.lt;omega);have s:Hid (w.heap.size<=f.heap.size):=Lh d.out.size;replace b:=Lh (b.out.alloc (.cells #[zI 2,zU 0,zO,zO,zO,zO,zO,zN,zO,zO,zE,zN] 104));replace d:=Lh (d.out.alloc (.cells #[zI 2,zU 0,zO,zO,zO,zO,zO,zN,zO,zO,zE,zN] 104));replace a:=Lh (a.out.AB ((Aa _ f).alloc (.cells #[zI 2,zU 0,zO,zO,zO,zO,zO,zN,zO,zO,zE,zN] 104)));obtain⟨j,C⟩:∃ x,x=f.heap.size:=⟨_,rfl⟩
 generalize f.alloc (.cells #[zI 2,zU 0,zO,zO,zO,zO,zO,zN,zO,zO,zE,zN] 104)=D at b d a c ⊢;rw[<- C] at c r s ⊢;clear C;have X:=c.out.cell 0;go_upto_region 12 with(go_at_call 125;refine(G.out _ _ a.out).mono ?_;rintro e f ⟨rfl,l,g⟩;have i:=a.out;replace b:=Lh (b.out.Ab g (BP.far i b.out (by decide)));replace c:=Lh (c.out.Ab g (BP.far i c.out (by decide)));replace d:=Lh (d.out.AJ g fun _ _ k=>k);replace a:=Lh l;clear g l i;have y:=c.out.cell 1;have z:=c.out.frozen 1)
 have m:Am (fun h=>h=j) f (f.setCell (zA j 1) (zU ch)):=(Aa (fun h=>h=j) f).setCell (p:=zA j 1) (fun _=>rfl) _;have o:Hid (AX (f.setCell (zA j 1) (zU ch)) j 104 #[zI 2,zU ch,zO,zO,zO,zO,zO,zN,zO,zO,zE,zN]):=Lh (c.out.Dw 1 (zU ch));replace b:=Lh (b.out.Ab m r.out);replace a:=Lh (a.out.Ab m fun e=>BP.far a.out c.out (by decide) e.symm);replace d:=Lh (d.out.AJ m fun h hq e=>by have:=s.out;omega);replace c:=o;clear o y z;generalize f.setCell (zA j 1) (zU ch)=D at b a d c m ⊢;clear m;go_upto_region 13 with(go_at_call 125;refine(H.out _ _ a.out).mono ?_;rintro e f ⟨rfl,l,g⟩;have i:=a.out;replace b:=Lh (b.out.Ab g (BP.far i b.out (by decide)));replace c:=Lh (c.out.Ab g (BP.far i c.out (by decide)));replace d:=Lh (d.out.AJ g fun _ _ k=>k);replace a:=Lh l;clear g l i;have y:=c.out.cell 2;have z:=c.out.frozen 2)
 have m:Am (fun h=>h=j) f (f.setCell (zA j 2) (zI seq)):=(Aa (fun h=>h=j) f).setCell (p:=zA j 2) (fun _=>rfl) _;have o:Hid (AX (f.setCell (zA j 2) (zI seq)) j 104 #[zI 2,zU ch,zI seq,zO,zO,zO,zO,zN,zO,zO,zE,zN]):=Lh (c.out.Dw 2 (zI seq));replace b:=Lh (b.out.Ab m r.out);replace a:=Lh (a.out.Ab m fun e=>BP.far a.out c.out (by decide) e.symm);replace d:=Lh (d.out.AJ m fun h hq e=>by have:=s.out;omega);replace c:=o;clear o y z;generalize f.setCell (zA j 2) (zI seq)=D at b a d c m ⊢;clear m;go_upto_region 19 with(first
  |(go_at_call 179;refine(I.out _ _ a.out).mono ?_;rintro e f ⟨rfl,l,g⟩;have i:=a.out;replace b:=Lh (b.out.Ab g (BP.far i b.out (by decide)));replace c:=Lh (c.out.Ab g (BP.far i c.out (by decide)));replace d:=Lh (d.out.AJ g fun _ _ k=>k);replace a:=Lh l;clear g l i)
  |(refine IX rfl (.tmp 44) (.tmp 43) rfl 3 rfl rfl (cs':=#[zI 2,zU ch,zI seq,zO,zI op,zI arg,zO,zN,zO,zO,zE,zN]) c.out XL (Nat.le_of_ble_eq_true rfl) (by simp[Value.oneCell']) rfl ?_;intro U A t;replace b:=Lh (b.out.Ab t r.out);replace a:=Lh (a.out.Ab t fun e=>BP.far a.out c.out (by decide) e.symm);replace d:=Lh (d.out.AJ t fun h hq e=>by have:=s.out;omega);replace c:=Lh A;clear t A))
 go_wp2_with (first
  |(refine AA rfl (.tmp 6) rfl rfl c.out Tryz.underlying104 rfl BM ?_)
  |(refine Bo rfl (.tmp 4) (.tmp 61) rfl rfl (cs':=#[zI 2,zU ch,zI seq,zO,zI op,zI arg,zO,zN,zO,zO,zE,zN]) rfl b.out BM rfl (by simp[Value.oneCell']) ?_;intro V J B M;clear M))
 refine bodyPost_ret (v:=.tuple #[.agg #[zI 2,zU ch,zI seq,zO,zI op,zI arg,zO,zN,zO,zO,zE,zN],.bool true]) (CB (p:=4) (q:=5) Tryz.results140 _ rfl rfl J Tryz.underlying104 rfl BM) rfl ?_;have K:=a.out.Ab B fun e=>BP.far a.out b.out (by decide) e.symm
 have L:=d.out.AJ B fun n P e=>by have:=E.out;omega
 exact⟨rfl,K,L⟩
theorem dE {ch seq er v:Int} (m:BP w p (BL 3++(BL ch.toNat++(BL seq.toNat++(BL er.toNat++(BL v.toNat++[])))))) (M:Ey ch) (R:0<=seq) (hs1:seq<=1000) (O:0<=er) (P:er<=100) (U:0<=v) (V:v<=1000000) :
  Calls Tryz.prog 140 #[zP p,.func (.func 125) #[zP p] #[]] w (rA w p #[zI 3,zU ch,zI seq,zO,zO,zO,zO,zN,zI er,zI v,zE,zN]):=by
 obtain⟨S,T⟩:=M;have D:Hid (∀ W rest,BP W p (BL ((3:Int)).toNat++rest)->Calls Tryz.prog 125 #[zP p,zI 5] W (Rt (zI ((3:Int))) fun w'=>BP w' p rest/\Am (fun o=>o=p) W w')):=by
  intro W rest q;have:=Ej (most:=5) q (by omega) (by omega);have e:((((3:Int)).toNat:Nat):Int)=(3:Int):=by omega
  rwa [e] at this
 have E:Hid (∀ W rest,BP W p (BL (ch).toNat++rest)->Calls Tryz.prog 125 #[zP p,zI 65535] W (Rt (zI (ch)) fun w'=>BP w' p rest/\Am (fun o=>o=p) W w')):=by
  intro W rest q;have:=Ej (most:=65535) q (by omega) (by omega);have e:(((ch).toNat:Nat):Int)=ch:=by omega
  rwa [e] at this
 have F:Hid (∀ W rest,BP W p (BL (seq).toNat++rest)->Calls Tryz.prog 125 #[zP p,zI 4611686018427387904] W (Rt (zI (seq)) fun w'=>BP w' p rest/\Am (fun o=>o=p) W w')):=by
  intro W rest q;have:=Ej (most:=4611686018427387904) q (by omega) (by omega);have e:(((seq).toNat:Nat):Int)=seq:=by omega
  rwa [e] at this
 have G:Hid (∀ W rest,BP W p (BL (er).toNat++rest)->Calls Tryz.prog 125 #[zP p,zI 100] W (Rt (zI (er)) fun w'=>BP w' p rest/\Am (fun o=>o=p) W w')):=by
  intro W rest q;have:=Ej (most:=100) q (by omega) (by omega);have e:(((er).toNat:Nat):Int)=er:=by omega
  rwa [e] at this
 have H:Hid (∀ W rest,BP W p (BL (v).toNat++rest)->Calls Tryz.prog 125 #[zP p,zI 4611686018427387904] W (Rt (zI (v)) fun w'=>BP w' p rest/\Am (fun o=>o=p) W w')):=by
  intro W rest q;have:=Ej (most:=4611686018427387904) q (by omega) (by omega);have e:(((v).toNat:Nat):Int)=v:=by omega
  rwa [e] at this
 have c:Hid (AX (w.alloc (.cells #[zO,zU 0,zO,zO,zO,zO,zO,zN,zO,zO,zE,zN] 104)) w.heap.size 104 #[zO,zU 0,zO,zO,zO,zO,zO,zN,zO,zO,zE,zN]):=Lh (AX.new w _ _);have f:Hid (Am (fun j=>j=p) w (w.alloc (.cells #[zO,zU 0,zO,zO,zO,zO,zO,zN,zO,zO,zE,zN] 104))):=Lh ((Aa _ w).alloc _);have b:Hid (BP (w.alloc (.cells #[zO,zU 0,zO,zO,zO,zO,zO,zN,zO,zO,zE,zN] 104)) p (BL ((3:Int)).toNat++(BL ch.toNat++(BL seq.toNat++(BL er.toNat++(BL v.toNat++[])))))):=Lh (m.AB ((Aa _ w).alloc _));clear m;go_in;go_upto_region 1 with(fail)
 obtain⟨N,y⟩:∃ z,z=w.heap.size:=⟨_,rfl⟩
 generalize w.alloc (.cells #[zO,zU 0,zO,zO,zO,zO,zO,zN,zO,zO,zE,zN] 104)=X at c f b ⊢;rw[<- y] at c ⊢;have C:=Lh y;clear y;go_upto_region 2 with(go_at_call 125;refine(D.out _ _ b.out).mono ?_;rintro e d ⟨rfl,l,h⟩;have k:=b.out;replace c:=Lh (c.out.Ab h (BP.far k c.out (by decide)));replace f:=Lh (f.out.AJ h fun _ _ m=>m);replace b:=Lh l;clear h l k)
 have a:Hid (AX (d.alloc (.cells #[zI 3,zU 0,zO,zO,zO,zO,zO,zN,zO,zO,zE,zN] 104)) d.heap.size 104 #[zI 3,zU 0,zO,zO,zO,zO,zO,zN,zO,zO,zE,zN]):=Lh (AX.new d _ _);have t:Hid (N≠d.heap.size):=Lh (by have:=c.out.lt;omega);have u:Hid (w.heap.size<=d.heap.size):=Lh f.out.size;replace c:=Lh (c.out.alloc (.cells #[zI 3,zU 0,zO,zO,zO,zO,zO,zN,zO,zO,zE,zN] 104));replace f:=Lh (f.out.alloc (.cells #[zI 3,zU 0,zO,zO,zO,zO,zO,zN,zO,zO,zE,zN] 104));replace b:=Lh (b.out.AB ((Aa _ d).alloc (.cells #[zI 3,zU 0,zO,zO,zO,zO,zO,zN,zO,zO,zE,zN] 104)));obtain⟨g,B⟩:∃ z,z=d.heap.size:=⟨_,rfl⟩
 generalize d.alloc (.cells #[zI 3,zU 0,zO,zO,zO,zO,zO,zN,zO,zO,zE,zN] 104)=x at c f b a ⊢;rw[<- B] at a t u ⊢;clear B;have Z:=a.out.cell 0;go_upto_region 15 with(go_at_call 125;refine(E.out _ _ b.out).mono ?_;rintro e d ⟨rfl,l,h⟩;have k:=b.out;replace c:=Lh (c.out.Ab h (BP.far k c.out (by decide)));replace a:=Lh (a.out.Ab h (BP.far k a.out (by decide)));replace f:=Lh (f.out.AJ h fun _ _ m=>m);replace b:=Lh l;clear h l k;have r:=a.out.cell 1;have s:=a.out.frozen 1)
 have i:Am (fun j=>j=g) d (d.setCell (zA g 1) (zU ch)):=(Aa (fun j=>j=g) d).setCell (p:=zA g 1) (fun _=>rfl) _;have n:Hid (AX (d.setCell (zA g 1) (zU ch)) g 104 #[zI 3,zU ch,zO,zO,zO,zO,zO,zN,zO,zO,zE,zN]):=Lh (a.out.Dw 1 (zU ch));replace c:=Lh (c.out.Ab i t.out);replace b:=Lh (b.out.Ab i fun e=>BP.far b.out a.out (by decide) e.symm);replace f:=Lh (f.out.AJ i fun j hq e=>by have:=u.out;omega);replace a:=n;clear n r s;generalize d.setCell (zA g 1) (zU ch)=x at c b f a i ⊢;clear i;go_upto_region 16 with(go_at_call 125;refine(F.out _ _ b.out).mono ?_;rintro e d ⟨rfl,l,h⟩;have k:=b.out;replace c:=Lh (c.out.Ab h (BP.far k c.out (by decide)));replace a:=Lh (a.out.Ab h (BP.far k a.out (by decide)));replace f:=Lh (f.out.AJ h fun _ _ m=>m);replace b:=Lh l;clear h l k;have r:=a.out.cell 2;have s:=a.out.frozen 2)
 have i:Am (fun j=>j=g) d (d.setCell (zA g 2) (zI seq)):=(Aa (fun j=>j=g) d).setCell (p:=zA g 2) (fun _=>rfl) _;have n:Hid (AX (d.setCell (zA g 2) (zI seq)) g 104 #[zI 3,zU ch,zI seq,zO,zO,zO,zO,zN,zO,zO,zE,zN]):=Lh (a.out.Dw 2 (zI seq));replace c:=Lh (c.out.Ab i t.out);replace b:=Lh (b.out.Ab i fun e=>BP.far b.out a.out (by decide) e.symm);replace f:=Lh (f.out.AJ i fun j hq e=>by have:=u.out;omega);replace a:=n;clear n r s;generalize d.setCell (zA g 2) (zI seq)=x at c b f a i ⊢;clear i;go_upto_region 17 with(go_at_call 125;refine(G.out _ _ b.out).mono ?_;rintro e d ⟨rfl,l,h⟩;have k:=b.out;replace c:=Lh (c.out.Ab h (BP.far k c.out (by decide)));replace a:=Lh (a.out.Ab h (BP.far k a.out (by decide)));replace f:=Lh (f.out.AJ h fun _ _ m=>m);replace b:=Lh l;clear h l k;have r:=a.out.cell 8;have s:=a.out.frozen 8)
 have i:Am (fun j=>j=g) d (d.setCell (zA g 8) (zI er)):=(Aa (fun j=>j=g) d).setCell (p:=zA g 8) (fun _=>rfl) _;have n:Hid (AX (d.setCell (zA g 8) (zI er)) g 104 #[zI 3,zU ch,zI seq,zO,zO,zO,zO,zN,zI er,zO,zE,zN]):=Lh (a.out.Dw 8 (zI er));replace c:=Lh (c.out.Ab i t.out);replace b:=Lh (b.out.Ab i fun e=>BP.far b.out a.out (by decide) e.symm);replace f:=Lh (f.out.AJ i fun j hq e=>by have:=u.out;omega);replace a:=n;clear n r s;generalize d.setCell (zA g 8) (zI er)=x at c b f a i ⊢;clear i;go_upto_region 19 with(go_at_call 125;refine(H.out _ _ b.out).mono ?_;rintro e d ⟨rfl,l,h⟩;have k:=b.out;replace c:=Lh (c.out.Ab h (BP.far k c.out (by decide)));replace a:=Lh (a.out.Ab h (BP.far k a.out (by decide)));replace f:=Lh (f.out.AJ h fun _ _ m=>m);replace b:=Lh l;clear h l k;have r:=a.out.cell 9;have s:=a.out.frozen 9)
 have i:Am (fun j=>j=g) d (d.setCell (zA g 9) (zI v)):=(Aa (fun j=>j=g) d).setCell (p:=zA g 9) (fun _=>rfl) _;have n:Hid (AX (d.setCell (zA g 9) (zI v)) g 104 #[zI 3,zU ch,zI seq,zO,zO,zO,zO,zN,zI er,zI v,zE,zN]):=Lh (a.out.Dw 9 (zI v));replace c:=Lh (c.out.Ab i t.out);replace b:=Lh (b.out.Ab i fun e=>BP.far b.out a.out (by decide) e.symm);replace f:=Lh (f.out.AJ i fun j hq e=>by have:=u.out;omega);replace a:=n;clear n r s;generalize d.setCell (zA g 9) (zI v)=x at c b f a i ⊢;clear i;go_wp2_with (first
  |(refine AA rfl (.tmp 6) rfl rfl a.out Tryz.underlying104 rfl BM ?_)
  |(refine Bo rfl (.tmp 4) (.tmp 61) rfl rfl (cs':=#[zI 3,zU ch,zI seq,zO,zO,zO,zO,zN,zI er,zI v,zE,zN]) rfl c.out BM rfl (by simp[Value.oneCell']) ?_;intro Y I A L;clear L))
 refine bodyPost_ret (v:=.tuple #[.agg #[zI 3,zU ch,zI seq,zO,zO,zO,zO,zN,zI er,zI v,zE,zN],.bool true]) (CB (p:=4) (q:=5) Tryz.results140 _ rfl rfl I Tryz.underlying104 rfl BM) rfl ?_;have J:=b.out.Ab A fun e=>BP.far b.out c.out (by decide) e.symm
 have K:=f.out.AJ A fun o Q e=>by have:=C.out;omega
 exact⟨rfl,J,K⟩
theorem jG {ch:Int} {L:List Ca} (n:BP w p (BL 1++(BL ch.toNat++(Gq L++[])))) (ac:Ey ch) (I:∀ c∈L,Cn c) (aa:L.length<=8) :
  Calls Tryz.prog 140 #[zP p,.func (.func 125) #[zP p] #[]] w (oJ w p (fun s=>#[zI 1,zU ch,zO,zO,zO,zO,zO,zN,zO,zO,zE,s]) L):=by
 obtain⟨ae,af⟩:=ac;have S:Hid (∀ W rest,BP W p (BL ((1:Int)).toNat++rest)->Calls Tryz.prog 125 #[zP p,zI 5] W (Rt (zI ((1:Int))) fun w'=>BP w' p rest/\Am (fun h=>h=p) W w')):=by
  intro W rest A;have:=Ej (most:=5) A (by omega) (by omega);have g:((((1:Int)).toNat:Nat):Int)=(1:Int):=by omega
  rwa [g] at this
 have T:Hid (∀ W rest,BP W p (BL (ch).toNat++rest)->Calls Tryz.prog 125 #[zP p,zI 65535] W (Rt (zI (ch)) fun w'=>BP w' p rest/\Am (fun h=>h=p) W w')):=by
  intro W rest A;have:=Ej (most:=65535) A (by omega) (by omega);have g:(((ch).toNat:Nat):Int)=ch:=by omega
  rwa [g] at this
 have U:Hid (∀ W rest,BP W p (Gq L++rest)->Calls Tryz.prog 178 #[zP p,.func (.func 125) #[zP p] #[]] W fun g w'=>∃ (l:Option Addr) (h:Nat) (t:List Ed),g= .returned (.tuple #[.slice l L.length h,.bool true])/\t.map (·.c)=L/\Dt w' l t/\Gh W.heap.size l t/\BP w' p rest/\Am (fun i=>i=p) W w'):=Lh fun W rest n=>Qk n I aa
 have a:Hid (AX (w.alloc (.cells #[zO,zU 0,zO,zO,zO,zO,zO,zN,zO,zO,zE,zN] 104)) w.heap.size 104 #[zO,zU 0,zO,zO,zO,zO,zO,zN,zO,zO,zE,zN]):=Lh (AX.new w _ _);have f:Hid (Am (fun i=>i=p) w (w.alloc (.cells #[zO,zU 0,zO,zO,zO,zO,zO,zN,zO,zO,zE,zN] 104))):=Lh ((Aa _ w).alloc _);have b:Hid (BP (w.alloc (.cells #[zO,zU 0,zO,zO,zO,zO,zO,zN,zO,zO,zE,zN] 104)) p (BL ((1:Int)).toNat++(BL ch.toNat++(Gq L++[])))):=Lh (n.AB ((Aa _ w).alloc _));clear n I;go_in;go_upto_region 1 with(fail)
 obtain⟨ad,C⟩:∃ D,D=w.heap.size:=⟨_,rfl⟩
 generalize w.alloc (.cells #[zO,zU 0,zO,zO,zO,zO,zO,zN,zO,zO,zE,zN] 104)=ag at a f b ⊢;rw[<- C] at a ⊢;have N:=Lh C;clear C;go_upto_region 2 with(go_at_call 125;refine(S.out _ _ b.out).mono ?_;rintro g e ⟨rfl,q,k⟩;have o:=b.out;replace a:=Lh (a.out.Ab k (BP.far o a.out (by decide)));replace f:=Lh (f.out.AJ k fun _ _ n=>n);replace b:=Lh q;clear k q o)
 have d:Hid (AX (e.alloc (.cells #[zI 1,zU 0,zO,zO,zO,zO,zO,zN,zO,zO,zE,zN] 104)) e.heap.size 104 #[zI 1,zU 0,zO,zO,zO,zO,zO,zN,zO,zO,zE,zN]):=Lh (AX.new e _ _);have y:Hid (ad≠e.heap.size):=Lh (by have:=a.out.lt;omega);have z:Hid (w.heap.size<=e.heap.size):=Lh f.out.size;replace a:=Lh (a.out.alloc (.cells #[zI 1,zU 0,zO,zO,zO,zO,zO,zN,zO,zO,zE,zN] 104));replace f:=Lh (f.out.alloc (.cells #[zI 1,zU 0,zO,zO,zO,zO,zO,zN,zO,zO,zE,zN] 104));replace b:=Lh (b.out.AB ((Aa _ e).alloc (.cells #[zI 1,zU 0,zO,zO,zO,zO,zO,zN,zO,zO,zE,zN] 104)));obtain⟨j,K⟩:∃ D,D=e.heap.size:=⟨_,rfl⟩
 generalize e.alloc (.cells #[zI 1,zU 0,zO,zO,zO,zO,zO,zN,zO,zO,zE,zN] 104)=M at a f b d ⊢;rw[<- K] at d y z ⊢;clear K;have ai:=d.out.cell 0;go_upto_region 10 with(go_at_call 125;refine(T.out _ _ b.out).mono ?_;rintro g e ⟨rfl,q,k⟩;have o:=b.out;replace a:=Lh (a.out.Ab k (BP.far o a.out (by decide)));replace d:=Lh (d.out.Ab k (BP.far o d.out (by decide)));replace f:=Lh (f.out.AJ k fun _ _ n=>n);replace b:=Lh q;clear k q o;have E:=d.out.cell 1;have F:=d.out.frozen 1)
 have m:Am (fun i=>i=j) e (e.setCell (zA j 1) (zU ch)):=(Aa (fun i=>i=j) e).setCell (p:=zA j 1) (fun _=>rfl) _;have r:Hid (AX (e.setCell (zA j 1) (zU ch)) j 104 #[zI 1,zU ch,zO,zO,zO,zO,zO,zN,zO,zO,zE,zN]):=Lh (d.out.Dw 1 (zU ch));replace a:=Lh (a.out.Ab m y.out);replace b:=Lh (b.out.Ab m fun g=>BP.far b.out d.out (by decide) g.symm);replace f:=Lh (f.out.AJ m fun i hq g=>by have:=z.out;omega);replace d:=r;clear r E F;generalize e.setCell (zA j 1) (zU ch)=M at a b f d m ⊢;clear m;go_upto_region 19 with(go_at_call 178;refine(U.out _ _ b.out).mono ?_;have Q:=Lh d.out.lt;have O:=Lh a.out.lt;have P:=Lh f.out.size;rintro g e ⟨l,h,t,rfl,J,G,H,q,k⟩;have R:=Lh J;have u:=Lh G;have x:=Lh H;clear J G H;have o:=b.out;replace a:=Lh (a.out.Ab k (BP.far o a.out (by decide)));replace d:=Lh (d.out.Ab k (BP.far o d.out (by decide)));replace f:=Lh (f.out.AJ k fun _ _ n=>n);replace b:=Lh q;clear k q o;have E:=d.out.cell 11;have F:=d.out.frozen 11)
 have m:Am (fun i=>i=j) e (e.setCell (zA j 11) (.slice l L.length h)):=(Aa (fun i=>i=j) e).setCell (p:=zA j 11) (fun _=>rfl) _;have r:Hid (AX (e.setCell (zA j 11) (.slice l L.length h)) j 104 #[zI 1,zU ch,zO,zO,zO,zO,zO,zN,zO,zO,zE,.slice l L.length h]):=Lh (d.out.Dw 11 (.slice l L.length h));replace a:=Lh (a.out.Ab m y.out);replace b:=Lh (b.out.Ab m fun g=>BP.far b.out d.out (by decide) g.symm);replace f:=Lh (f.out.AJ m fun i hq g=>by have:=z.out;omega);replace u:=Lh (u.out.Ab x.out m fun h Z g=>by have:=Q.out;omega);replace d:=r;clear r E F;generalize e.setCell (zA j 11) (.slice l L.length h)=M at a b f d u m ⊢;clear m;go_wp2_with (first
  |(refine AA rfl (.tmp 6) rfl rfl d.out Tryz.underlying104 rfl BM ?_)
  |(refine Bo rfl (.tmp 4) (.tmp 61) rfl rfl (cs':=#[zI 1,zU ch,zO,zO,zO,zO,zO,zN,zO,zO,zE,.slice l L.length h]) rfl a.out BM rfl (by simp[Value.oneCell']) ?_;intro ah V B ab;clear ab))
 refine bodyPost_ret (v:=.tuple #[.agg #[zI 1,zU ch,zO,zO,zO,zO,zO,zN,zO,zO,zE,.slice l L.length h],.bool true]) (CB (p:=4) (q:=5) Tryz.results140 _ rfl rfl V Tryz.underlying104 rfl BM) rfl ?_;have X:=b.out.Ab B fun g=>BP.far b.out a.out (by decide) g.symm
 have Y:=f.out.AJ B fun h Z g=>by have:=N.out;omega
 exact⟨l,h,t,rfl,R.out,u.out.Ab x.out B fun i hq g=>by have:=O.out;omega,x.out.mono P.out,X,Y⟩
theorem dD {L:List Ca} (k:BP w p (BL 5++(Gq L++[]))) (F:∀ c∈L,Cn c) (V:L.length<=8) :
  Calls Tryz.prog 140 #[zP p,.func (.func 125) #[zP p] #[]] w (oJ w p (fun s=>#[zI 5,zU 0,zO,zO,zO,zO,zO,zN,zO,zO,zE,s]) L):=by
 have O:Hid (∀ W rest,BP W p (BL ((5:Int)).toNat++rest)->Calls Tryz.prog 125 #[zP p,zI 5] W (Rt (zI ((5:Int))) fun w'=>BP w' p rest/\Am (fun f=>f=p) W w')):=by
  intro W rest Q;have:=Ej (most:=5) Q (by omega) (by omega);have h:((((5:Int)).toNat:Nat):Int)=(5:Int):=by omega
  rwa [h] at this
 have P:Hid (∀ W rest,BP W p (Gq L++rest)->Calls Tryz.prog 178 #[zP p,.func (.func 125) #[zP p] #[]] W fun h w'=>∃ (i:Option Addr) (f:Nat) (q:List Ed),h= .returned (.tuple #[.slice i L.length f,.bool true])/\q.map (·.c)=L/\Dt w' i q/\Gh W.heap.size i q/\BP w' p rest/\Am (fun j=>j=p) W w'):=Lh fun W rest k=>Qk k F V
 have a:Hid (AX (w.alloc (.cells #[zO,zU 0,zO,zO,zO,zO,zO,zN,zO,zO,zE,zN] 104)) w.heap.size 104 #[zO,zU 0,zO,zO,zO,zO,zO,zN,zO,zO,zE,zN]):=Lh (AX.new w _ _);have d:Hid (Am (fun j=>j=p) w (w.alloc (.cells #[zO,zU 0,zO,zO,zO,zO,zO,zN,zO,zO,zE,zN] 104))):=Lh ((Aa _ w).alloc _);have b:Hid (BP (w.alloc (.cells #[zO,zU 0,zO,zO,zO,zO,zO,zN,zO,zO,zE,zN] 104)) p (BL ((5:Int)).toNat++(Gq L++[]))):=Lh (k.AB ((Aa _ w).alloc _));clear k F;go_in;go_upto_region 1 with(fail)
 obtain⟨Y,y⟩:∃ z,z=w.heap.size:=⟨_,rfl⟩
 generalize w.alloc (.cells #[zO,zU 0,zO,zO,zO,zO,zO,zN,zO,zO,zE,zN] 104)=ac at a d b ⊢;rw[<- y] at a ⊢;have I:=Lh y;clear y;go_upto_region 2 with(go_at_call 125;refine(O.out _ _ b.out).mono ?_;rintro h g ⟨rfl,r,l⟩;have n:=b.out;replace a:=Lh (a.out.Ab l (BP.far n a.out (by decide)));replace d:=Lh (d.out.AJ l fun _ _ k=>k);replace b:=Lh r;clear l r n)
 have e:Hid (AX (g.alloc (.cells #[zI 5,zU 0,zO,zO,zO,zO,zO,zN,zO,zO,zE,zN] 104)) g.heap.size 104 #[zI 5,zU 0,zO,zO,zO,zO,zO,zN,zO,zO,zE,zN]):=Lh (AX.new g _ _);have A:Hid (Y≠g.heap.size):=Lh (by have:=a.out.lt;omega);have C:Hid (w.heap.size<=g.heap.size):=Lh d.out.size;replace a:=Lh (a.out.alloc (.cells #[zI 5,zU 0,zO,zO,zO,zO,zO,zN,zO,zO,zE,zN] 104));replace d:=Lh (d.out.alloc (.cells #[zI 5,zU 0,zO,zO,zO,zO,zO,zN,zO,zO,zE,zN] 104));replace b:=Lh (b.out.AB ((Aa _ g).alloc (.cells #[zI 5,zU 0,zO,zO,zO,zO,zO,zN,zO,zO,zE,zN] 104)));obtain⟨m,H⟩:∃ z,z=g.heap.size:=⟨_,rfl⟩
 generalize g.alloc (.cells #[zI 5,zU 0,zO,zO,zO,zO,zO,zN,zO,zO,zE,zN] 104)=Z at a d b e ⊢;rw[<- H] at e A C ⊢;clear H;have ae:=e.out.cell 0;go_upto_region 19 with(go_at_call 178;refine(P.out _ _ b.out).mono ?_;have M:=Lh e.out.lt;have J:=Lh a.out.lt;have K:=Lh d.out.size;rintro h g ⟨i,f,q,rfl,G,D,E,r,l⟩;have N:=Lh G;have t:=Lh D;have u:=Lh E;clear G D E;have n:=b.out;replace a:=Lh (a.out.Ab l (BP.far n a.out (by decide)));replace e:=Lh (e.out.Ab l (BP.far n e.out (by decide)));replace d:=Lh (d.out.AJ l fun _ _ k=>k);replace b:=Lh r;clear l r n;have aa:=e.out.cell 11;have ab:=e.out.frozen 11)
 have o:Am (fun j=>j=m) g (g.setCell (zA m 11) (.slice i L.length f)):=(Aa (fun j=>j=m) g).setCell (p:=zA m 11) (fun _=>rfl) _;have B:Hid (AX (g.setCell (zA m 11) (.slice i L.length f)) m 104 #[zI 5,zU 0,zO,zO,zO,zO,zO,zN,zO,zO,zE,.slice i L.length f]):=Lh (e.out.Dw 11 (.slice i L.length f));replace a:=Lh (a.out.Ab o A.out);replace b:=Lh (b.out.Ab o fun h=>BP.far b.out e.out (by decide) h.symm);replace d:=Lh (d.out.AJ o fun j hq h=>by have:=C.out;omega);replace t:=Lh (t.out.Ab u.out o fun f U h=>by have:=M.out;omega);replace e:=B;clear B aa ab;generalize g.setCell (zA m 11) (.slice i L.length f)=Z at a b d e t o ⊢;clear o;go_wp2_with (first
  |(refine AA rfl (.tmp 6) rfl rfl e.out Tryz.underlying104 rfl BM ?_)
  |(refine Bo rfl (.tmp 4) (.tmp 61) rfl rfl (cs':=#[zI 5,zU 0,zO,zO,zO,zO,zO,zN,zO,zO,zE,.slice i L.length f]) rfl a.out BM rfl (by simp[Value.oneCell']) ?_;intro ad R x X;clear X))
 refine bodyPost_ret (v:=.tuple #[.agg #[zI 5,zU 0,zO,zO,zO,zO,zO,zN,zO,zO,zE,.slice i L.length f],.bool true]) (CB (p:=4) (q:=5) Tryz.results140 _ rfl rfl R Tryz.underlying104 rfl BM) rfl ?_;have S:=b.out.Ab x fun h=>BP.far b.out a.out (by decide) h.symm
 have T:=d.out.AJ x fun f U h=>by have:=I.out;omega
 exact⟨i,f,q,rfl,N.out,t.out.Ab u.out x fun j hq h=>by have:=J.out;omega,u.out.mono K.out,S,T⟩
end

end Go.Proofs.YtcjcndnjpedniaaGreat
