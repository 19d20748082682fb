/- A part of the proof of TopUsers. -/
import Derived.Shelf.SlSortCmp.Small
import Derived.Shelf.Small.Bits
import Derived.Sort.OwnSorted
import Derived.Test.YtcjcndnjpedniaaGreatB6
namespace Go.Proofs.YtcjcndnjpedniaaGreat
set_option linter.all false
set_option maxRecDepth 100000
set_option maxHeartbeats 8000000
open Go.RowKit
section
variable {w w' W:Bc} {p:Nat} {rest:List UInt8}
theorem RS {n:Nat} (a:n<=16):(UInt8.ofNat n).toNat=n:=by rw[UInt8.toNat_ofNat'];omega
theorem TQ {l:List BB} (a:BP w p (JY l++rest)) (x:D9 l=true) (T:∀ s∈l,s.size<=16) :
  Calls Tryz.prog 126 #[zP p] w fun e w'=>∃ A c,e= .returned (.slice A l.length c)/\w'.ownsRow w.heap.size 27 1 (.slice A l.length c) l.length (l.map Value.string)/\BP w' p rest/\Am (fun k=>k=p) w w':=by
 obtain⟨Z,O,U,X,Y⟩:=info_parts Iz;obtain⟨ap,bm,P⟩:=Cm x;have G:BP w p (UInt8.ofNat l.length::(l.flatMap GH++rest)):=a;have bl:=PI (most:=16) G (by rw[RS bm];exact ap) (by rw[RS bm];omega);rw[RS bm] at bl;have B:=Lh bl;have ad:=Lh P;have D:=Lh T;have ae:=Lh x;have bg:p<w.heap.size:=a.lt;have ac:=Lh fun(W:Bc) al=>@Ir W p 0 0 al
 clear bl a G P T x;go_in;go_wp2_with fail;refine B.out.mono ?_;rintro e aa ⟨rfl,I,q⟩;clear B;have S:=q.size;go_wp2_with (at_make;refine wpList_make_own _ rfl _ _ 29 rfl w.heap.size 27 Z (zE) 1 Tryz.underlying29 O U X .i64 .i64 _ l.length rfl rfl (by omega) (by rw[Y];omega) (by unfold maxLen;omega) S ?_;intro ax E N);have m:Au aa ax:=(Aa _ aa).grown N fun _ a=>by cases a
 have J:=I.AB m;have L:=q.AJ m fun _ _ a=>a.elim
 clear N I q m S;go_loopg [4,10] l.length fun gk v i wr=>∃ b:Nat,b+gk=l.length/\i=zI b/\wr.ownsRow w.heap.size 27 1 v b ((l.take b).map Value.string)/\BP wr p ((l.drop b).flatMap GH++rest)/\Am (fun k=>k=p) w wr
 case atStart=>exact⟨0,Bz _,rfl,by simpa using E,J,L⟩
 case round =>
  clear E J L;obtain⟨b,be,rfl,d,f,o⟩:=hrel;have bh:=o.size;obtain⟨z,F,rfl⟩:=BD d;by_cases u:b<l.length
  ·obtain⟨s,h⟩:∃ s,s=l[b]:=⟨_,rfl⟩
   have y:s∈l:=by rw[h];exact Br u
   have M:(l.drop b).flatMap GH++rest=GH s++((l.drop (b+1)).flatMap GH++rest):=by rw[Fa u,<- h,CY,BJ]
   rw[M] at f;have C:=Lh (Re f (ad.out s y) (D.out s y));have af:Hid (l.take (b+1)=l.take b++[s]):=by show l.take (b+1)=_;rw[AP u,h]
   have au:(b:Int)<(l.length:Int):=by omega
   clear h y M f;go_wp2_with fail;refine C.out.mono ?_;rintro e bk ⟨rfl,ah,r⟩;have R:=Aj d r fun g am e=>by have:=BQ d am;omega
   have bi:=r.size;clear C;go_wp2_with (at_builtin;refine wpList_append_lies _ rfl (.tmp 12) (.tmp 15) 29 rfl w.heap.size 27 Z _ 1 16 Tryz.underlying29 O U X Y rfl (by omega) (.slice z b F) b _ rfl (R.alloc _) (zA bk.heap.size 0) 1 1 [.string s] rfl rfl (World.news_of_block (cs:=#[.string s]) (t:=27) (fr:=(0,0)) (heap_alloc_new bk _)) (by simp[Value.oneCell']) (by omega) (by unfold maxLen;omega) (by omega) (by simp;omega) (bk.heap.size+1) (by simp) ?_;intro bc ba ay ag an bd bf);have K:Am (fun k=>w.heap.size<=k) bk ay:=((Aa _ bk).alloc _).grown an fun k a ao=>BQ R a
   have ai:=ah.Ab K (by omega);have ak:=(o.AJ r fun _ _ a=>a).AJ K fun k ao a=>by omega
   go_roundg (gk-1)
   case measure=>omega
   case rel=>exact⟨b+1,by omega,by go_num,by rw[af.out,Bw];exact ag,ai,ak⟩
  ·obtain rfl:b=l.length:=by omega
   rw[Cr] at d;rw[List.drop_length] at f;have H:BP wr p rest:=f;have au:¬(l.length:Int)<(l.length:Int):=by omega
   have j:=fun W (aj:Au wr W)=>Km z F l W (by omega) (fun s aq=>by have:=D.out s aq;omega) (Ay.Ea (V:=Value.string) (fun _=>rfl) (Aj d aj fun _ _ a=>a))
   rw[ae.out] at j;have ab:=Lh j;clear j;go_wp2_with fail;refine(ac.out wr H.cell0).mono ?_;rintro e bj ⟨rfl,rfl⟩;go_wp2_with fail;refine(ab.out _ (Aa _ _)).mono ?_;rintro e az ⟨rfl,av,Q⟩;have n:Au wr az:=by rw[Q];exact(Aa _ wr).drewN av
   clear Q;go_wp2;go_ret;exact⟨_,_,rfl,Aj d n fun _ _ a=>a,H.AB n,o.AJ n fun _ _ a=>a.elim⟩
end

section
variable {w w' W:Bc}
def iV (n:Int):Value:=zI n
def QA (x:Int) (xs:List Int):Int:=Im (xs.findIdx? fun a=>x==a)
theorem XF (A:Option Addr) (c B:Nat) (xs:List Int) (x:Int) (w:Bc) (E:xs.length<=1000000) (o:Ay iV w B 1 A xs) :
  Calls Tryz.prog 227 #[.slice A xs.length c,zI x] w (Rt (zI (QA x xs)) fun w'=>w=w'):=by
 have q:=Lh o;clear o;go_in;go_wp2;go_loopg [8] xs.length fun gk d wr=>∃ a:Nat,a+gk=xs.length/\d=zI a/\w=wr/\∀ d b,d<a->xs[d]?= some b->(x==b)=false
 case atStart=>exact⟨0,Bz _,rfl,rfl,fun d b f=>by omega⟩
 case round =>
  obtain⟨a,D,rfl,rfl,n⟩:=hrel;have h:=Lh n;clear n;by_cases m:a<xs.length
  ·obtain⟨r,v,rfl,C,k⟩:=Ay.BV (V:=iV) (fun _=>rfl) q.out m;obtain⟨b,g⟩:∃ b,b=xs[a]:=⟨_,rfl⟩
   have l:Hid (xs[a]?= some b):=Lh (by rw[g];exact Ah m);rw[<- g] at k;have z:Cl w r (v+a) (zI b):=k;have F:(0:Int)<=(a:Int):=by omega
   have u:(a:Int)<(xs.length:Int):=by omega
   clear g k;rcases hq:(x==b) with _|_
   ·have j:=Lh hq;go_wp2;go_roundg (gk-1)
    case measure=>omega
    case rel =>
     refine⟨a+1,by omega,by go_num,rfl,fun d y f p=>?_⟩;by_cases t:d=a
     ·subst t;have e:=l.out;rw[p] at e;injection e with e;rw[e];exact j.out
     ·exact h.out d y (by omega) p
   ·have j:=Lh hq;have i:Hid (QA x xs=(a:Int)):=by
     show QA x xs=_;unfold QA;have:xs.findIdx? (fun b=>x==b)=some a:=by
      rw[Cj];obtain⟨e,s⟩:=AC.1 l.out;refine⟨e,by rw[s];exact j.out,fun d f=>?_⟩;have:=h.out d _ f (Ah (by omega));simp[this]
     rw[this];rfl
    go_wp2;go_ret;exact⟨by rw[i.out];rfl,rfl⟩
  ·have u:¬(a:Int)<(xs.length:Int):=by omega
   have i:Hid (QA x xs = -1):=by
    show QA x xs=_;unfold QA;have:xs.findIdx? (fun b=>x==b)=none:=by
     rw[Ct];intro b g;obtain⟨d,f,rfl⟩:=CQ g;exact h.out d _ (by omega) (Ah f)
    rw[this];rfl
   go_wp2;go_ret;exact⟨by rw[i.out];rfl,rfl⟩
theorem aF (x:Int) (xs:List Int):decide ((0:Int)<=QA x xs)=decide (x∈xs):=by
 unfold QA;rcases b:xs.findIdx? (fun g=>x==g) with _|f
 ·have e:x∉xs:=fun a=>by
   have:=Ct.1 b x a;simp at this
  rw[BC e];rfl
 ·obtain⟨c,d,_⟩:=Cj.1 b;have a:x∈xs:=by
   have:x=xs[f]:=by simpa using d
   rw[this];exact Br c
  rw[BH a];simp[Im]
theorem RO (A:Option Addr) (c B:Nat) (xs:List Int) (x:Int) (w:Bc) (e:xs.length<=1000000) (d:Ay iV w B 1 A xs) :
  Calls Tryz.prog 194 #[.slice A xs.length c,zI x] w (Rt (.bool (decide (x∈xs))) fun w'=>w=w'):=by
 have a:=Lh (XF A c B xs x w e d);have b:=Lh (aF x xs);clear d;go_in;go_wp2_with fail;refine a.out.mono ?_;rintro f h ⟨rfl,rfl⟩;clear a;generalize QA x xs=g at b;go_wp2;go_ret;exact⟨by rw[<- b.out];rfl,rfl⟩
theorem TR (A:Option Addr) (c B:Nat) (b:List Int) (a:Int) (w:Bc) (ha:Ey a) (f:b.length<=1000000) (d:Ay iV w B 1 A b) :
  Calls Tryz.prog 151 #[zU a,.slice A b.length c] w (Rt (.bool (decide (a/8192∈b))) fun w'=>w=w'):=by
 have ht:a.tdiv 8192=a/8192:=Dk ha.1;have e:=Lh (RO A c B b (a/8192) w f d);obtain⟨h,i⟩:=ha;clear d;go_in;go_wp2_with fail;refine e.out.mono ?_;rintro g j ⟨rfl,rfl⟩;go_wp2;go_ret;exact⟨rfl,rfl⟩
theorem IJ (s:BB) (i:Int):Ey (G6 s i):=by
 rw[at_eq];split
 ·rw[CK];rcases a:(AU s)[i.toNat]? with _|b
  ·exact⟨by simp,by simp⟩
  ·exact QL s b (Bn a)
 ·exact⟨by omega,by omega⟩
def Ev (s:BB) (a:List Int):Bool:=decide (Cc s=1/\G6 s 0/8192∈a)
theorem Xo (A:Option Addr) (c:Nat) (a:List Int) (s:BB) (w:Bc) (x:s.size<=1000000) (v:a.length<=1000) (m:Ay iV w w.heap.size 1 A a) :
  Calls Tryz.prog 196 #[.string s,.slice A a.length c] w (Rt (.bool (Ev s a)) (Au w)):=by
 have b:=Lh (F5 s w (by unfold maxLen;omega));have q:=Lh m;clear m;by_cases d:Cc s=1
 ·have g:(Cc s==1)=true:=by simpa using d
  have e:Hid (Ev s a=decide (G6 s 0/8192∈a)):=by show Ev s a=_;unfold Ev;simp[d]
  have f:=Lh fun W=>Ms s 0 W (by unfold maxLen;omega) (K3 (by omega) (by omega))
  have k:Ey (G6 s 0):=IJ s 0;have i:=Lh k;generalize Cc s=t at b g;generalize G6 s 0=r at f e i;clear d k;go_in;go_wp2_with fail;refine b.out.mono ?_;rintro h o ⟨rfl,rfl⟩;clear b;go_wp2_with fail;refine(f.out _).mono ?_;rintro h n ⟨rfl,u,l⟩;have j:Au w n:=by rw[l];exact(Aa _ w).drewN u
  clear f l;have p:=Lh (TR A c _ a r n i.out (by omega) (q.out.AB j));go_wp2_with fail;refine p.out.mono ?_;rintro h o ⟨rfl,rfl⟩;go_wp2;go_ret;exact⟨by rw[e.out];rfl,j⟩
 ·have g:(Cc s==1)=false:=by simpa using d
  have e:Hid (Ev s a=false):=by show Ev s a=_;unfold Ev;simp[d]
  generalize Cc s=t at b g;clear d;go_in;go_wp2_with fail;refine b.out.mono ?_;rintro h o ⟨rfl,rfl⟩;clear b;go_wp2;go_ret;exact⟨by rw[e.out];rfl,Aa _ _⟩
def GA (n:Int):Bool:=decide (0<=n/\n<=4611686018427387904)
theorem ZG (A:Option Addr) (c B:Nat) (xs:List Int) (w:Bc) (u:xs.length<=1000000) (h:Ay iV w B 1 A xs) (e:∀ x∈xs,0<=x/\x<=4611686018427387904) :
  Calls Tryz.prog 152 #[.slice A xs.length c] w (Rt (.bool true) fun w'=>w=w'):=by
 have k:=Lh h;have j:=Lh e;clear h e;go_in;go_wp2;go_loopg [7] xs.length fun gk m wr=>∃ a:Nat,a+gk=xs.length/\m=zI a/\w=wr
 case atStart=>exact⟨0,Bz _,rfl,rfl⟩
 case round =>
  obtain⟨a,t,rfl,rfl⟩:=hrel;by_cases f:a<xs.length
  ·obtain⟨l,o,rfl,s,d⟩:=Ay.BV (V:=iV) (fun _=>rfl) k.out f;obtain⟨b,i⟩:∃ b,b=xs[a]:=⟨_,rfl⟩
   have g:=j.out _ (Br f);rw[<- i] at d g;have p:Cl w l (o+a) (zI b):=d;have q:decide (b<0)=false:=dF;have r:decide (4611686018427387904<b)=false:=dF;have v:(0:Int)<=(a:Int):=by omega
   have n:(a:Int)<(xs.length:Int):=by omega
   clear i d g;go_wp2;go_roundg (gk-1)
   case measure=>omega
   case rel=>exact⟨a+1,by omega,by go_num,rfl⟩
  ·have n:¬(a:Int)<(xs.length:Int):=by omega
   go_wp2;go_ret;exact⟨rfl,rfl⟩
end

section
open Go.Maps (Keyed)
structure Vi {κ : Type} (k:TypeId) (K:κ->Value) (ok:κ->Prop):Prop where
 keyed:Keyed Tryz.prog k
 isK:∀ c,ok c->MO Tryz.prog k (K c)
 inj:∀ c d,K c=K d->c=d
def GI {κ α : Type} (W:Bc) (k:TypeId) (b:Nat) (K:κ->Value) (V:α->Value) (ok:κ->Prop) (f:κ->Option α):Prop :=
 ∃ d,Cw W Tryz.prog k b d/\(∀ e∈d,∃ c a,ok c/\f c=some a/\e=(K c,V a))/\∀ c a,ok c->f c=some a->(K c,V a)∈d
def Ig {κ α : Type} [DecidableEq κ] (f:κ->Option α) (c:κ) (b:α):κ->Option α:=fun a=>if a=c then some b else f a
section
variable {κ α : Type} {W W':Bc} {k T e:TypeId} {b:Nat} {K:κ->Value} {V:α->Value} {ok:κ->Prop} {f:κ->Option α} {c:κ}
theorem GI.lt (a:GI W k b K V ok f):b<W.heap.size:=by
 obtain⟨d,c,_⟩:=a;exact c.lt
theorem GI.Ab {S:Nat->Prop} (a:GI W k b K V ok f) (e:Am S W W') (g:¬S b):GI W' k b K V ok f:=by
 obtain⟨h,c,d⟩:=a;exact⟨h,c.Ab e g,d⟩
theorem GI.AB (a:GI W k b K V ok f) (c:Au W W'):GI W' k b K V ok f:=a.Ab c id
theorem GI.Ee (a:GI W k b K V ok f) {g:Nat} {t:TypeId} {cs:Array Value} (d:AX W g t cs):g≠b:=by
 obtain⟨e,c,_⟩:=a;exact c.Ee d
theorem GI.new (W:Bc):GI (W.alloc (.map #[] 0)) k W.heap.size K V ok (fun _=>none):=⟨[],Cw.new W _ _,fun e b=>(by cases b),fun c d _ a=>(by cases a)⟩
theorem GI.Jc (g:GI W k b K V ok f) (hk:Vi k K ok) (ht:Tryz.prog.underlying T=some (.map k e)) (j:ok c) {a:α} (l:f c=some a) (d:Bool) :
  (Instr.lookup T (.map (some b)) (K c) d).run Tryz.prog W= .ok (if d then .tuple #[V a,.bool true] else V a) W:=by
 obtain⟨n,h,m,i⟩:=g;exact h.Nl hk.keyed ht (i c a j l) d
theorem GI.JI (g:GI W k b K V ok f) (hk:Vi k K ok) (ht:Tryz.prog.underlying T=some (.map k e)) (j:ok c) (l:f c=none) {z:Value} (n:(zeroValue e).run Tryz.prog W= .ok z W) (a:Bool) :
  (Instr.lookup T (.map (some b)) (K c) a).run Tryz.prog W= .ok (if a then .tuple #[z,.bool false] else z) W:=by
 obtain⟨s,h,i,r⟩:=g;refine h.OQ hk.keyed ht n (hk.isK c j) (fun o m e=>?_) a;obtain⟨q,p,_,d,rfl⟩:=i o m;have:=hk.inj _ _ e;subst this;rw[l] at d;cases d
theorem GI.put [DecidableEq κ] (g:GI W k b K V ok f) (hk:Vi k K ok) (ht:Tryz.prog.underlying T=some (.map k e)) (p:ok c) (j:α) :
  ∃ w2,(Instr.mapUpdate T (.map (some b)) (K c) (V j)).run Tryz.prog W= .ok () w2/\GI w2 k b K V ok (Ig f c j)/\Am (fun i=>i=b) W w2:=by
 obtain⟨D,q,r,s⟩:=g;rcases v:f c with _|A
 ·have C:∀ m∈D,m.1≠K c:=fun m d e=>by
   obtain⟨h,j,_,n,rfl⟩:=r m d;have:=hk.inj _ _ e;subst this;rw[v] at n;cases n
  obtain⟨F,y,t⟩:=q.Nv hk.keyed ht (hk.isK c p) C (V j);refine⟨_,y,⟨_,t,fun m d=>?_,fun h l n a=>?_⟩,(Aa (fun i=>i=b) W).setBlock (fun _=>rfl) F⟩
  ·rcases Bd.1 d with d|d
   ·obtain⟨h,l,u,o,rfl⟩:=r m d;refine⟨h,l,u,?_,rfl⟩;unfold Ig;rw[Bg fun e=>by rw[e,v] at o;cases o];exact o
   ·rw[Ai.1 d];exact⟨c,j,p,by unfold Ig;rw[AQ rfl],rfl⟩
  ·unfold Ig at a;split at a
   ·rename_i e;injection a with a;rw[e,a];simp
   ·exact Bd.2 (.inl (s h l n a))
 ·obtain⟨w2,E,G,y,t,w,x,B,_⟩:=q.Uy hk.keyed ht (s c A p v) (V j);have z:=w.pairwise q.nodup fun {_ _} g=>BZ g
  rw[Gm] at z;refine⟨w2,y,⟨E,t,fun m d=>?_,fun h l n a=>?_⟩,B⟩
  ·rcases BI.1 (x.subset d) with rfl|d
   ·exact⟨c,j,p,by unfold Ig;rw[AQ rfl],rfl⟩
   ·obtain⟨h,l,u,o,rfl⟩:=r m (w.symm.subset (Dn _ d));refine⟨h,l,u,?_,rfl⟩;unfold Ig;rw[Bg fun e=>by subst e;exact z.1 _ d rfl];exact o
  ·unfold Ig at a;split at a
   ·rename_i e;injection a with a;rw[e,<- a];exact x.symm.subset (by simp)
   ·rename_i e;have:=w.subset (s h l n a);rcases BI.1 this with g|g
    ·injection g with g _;exact Bv (hk.inj _ _ g) e
    ·exact x.symm.subset (Dn _ g)
end
theorem keyOf_str {k:TypeId} (hk:Tryz.prog.underlying k=some .string) {s:BB} (a:s.size<=maxLen):MO Tryz.prog k (.string s):=by
 refine⟨.string s.data.toList,?_⟩;simp[keyOf,hk,mapKey];exact a
def Mk (s:BB):Prop:=s.size<=maxLen
theorem GV:Vi 27 Value.string Mk where
 keyed:=Go.Maps.string_keyed Tryz.underlying27
 isK:=fun c b=>keyOf_str Tryz.underlying27 b
 inj:=fun _ _ a=>by injection a
theorem Sa:Vi 9 Value.string Mk where
 keyed:=Go.Maps.string_keyed Tryz.underlying9
 isK:=fun c b=>keyOf_str Tryz.underlying9 b
 inj:=fun _ _ a=>by injection a
theorem WX:Vi 3 (Value.int .i64) i64 where
 keyed:=Go.Maps.int_keyed Tryz.underlying3
 isK:=fun c b=>⟨_,Go.Maps.keyOf_int_mk Tryz.underlying3 (wf_i64 b)⟩
 inj:=fun _ _ a=>by injection a
theorem RZ:Vi 25 (Value.int .u16) Ey where
 keyed:=JS
 isK:=fun _ b=>KC b
 inj:=fun _ _ a=>by injection a
end
section
variable {w w' W:Bc}
def eQ (_:Unit):Value:=.agg #[]
def EF (xs c:List BB):Bool:=xs.all fun a=>c.any fun b=>decide (b=a)
theorem Ju {xs a:List BB}:EF xs a=true↔∀ x∈xs,x∈a:=by simp[EF]
theorem QG {xs a:List BB} (b:¬∀ x∈xs,x∈a):EF xs a=false:=by rw[Fh,Ne,Ju];exact b
theorem Og {t k e:TypeId} {n:Nat} (ht:Tryz.prog.underlying t=some (.map k e)) (w:Bc):(Instr.makeMap t (some (zI (n:Int)))).run Tryz.prog w= .ok (.map (some w.heap.size)) (w.alloc (.map #[] 0)):=by
 simp[Instr.makeMap,run_underlying ht,asInt,asIntOf,Result.andThen]
theorem MM (M N:Option Addr) (ak al:Nat) (xs a:List BB) (w:Bc) (hx:xs.length<=1000) (ay:a.length<=1000) (P:Ay Value.string w w.heap.size 1 M xs) (Q:Ay Value.string w w.heap.size 1 N a) (Y:∀ s∈xs,Mk s) (Z:∀ s∈a,Mk s) :
  Calls Tryz.prog 262 #[.slice M xs.length ak,.slice N a.length al] w (Rt (.bool (EF xs a)) (Au w)):=by
 have ab:=Lh P;have ac:=Lh Q;have ah:=Lh Y;have ai:=Lh Z;have aw:=fun W=>Og (n:=a.length) Tryz.underlying402 W
 have bg:GI (w.alloc (.map #[] 0)) 27 w.heap.size Value.string eQ Mk (fun _=>none):=GI.new w;have D:Au w (w.alloc (.map #[] 0)):=(Aa _ w).alloc _;have az:(0:Int)<=(a.length:Int):=by omega
 clear P Q Y Z;go_in;go_wp2_with fail;generalize w.alloc (.map #[] 0)=be at bg D ⊢;obtain⟨y,J⟩:∃ y,y=w.heap.size:=⟨_,rfl⟩
 rw[<- J] at bg ⊢;have af:=Lh J;clear J;go_loopg [17] a.length fun gk L wr=>∃ (b:Nat) (h:BB->Option Unit),b+gk=a.length/\L=zI b/\GI wr 27 y Value.string eQ Mk h/\(∀ s,h s=some ()↔s∈a.take b)/\Au w wr
 case atStart=>exact⟨0,_,Bz _,rfl,bg,fun s=>by simp,D⟩
 case round =>
  clear bg D;obtain⟨b,h,au,rfl,t,i,o⟩:=hrel;have B:=Lh i;clear i;by_cases H:b<a.length
  ·obtain⟨m,q,rfl,G,e⟩:=Ay.BV (V:=Value.string) (fun _=>rfl) ac.out H;obtain⟨s,d⟩:∃ s,s=a[b]:=⟨_,rfl⟩
   have g:s∈a:=by rw[d];exact Br H
   rw[<- d] at e;have aj:Cl wr m (q+b) (.string s):=(o.cell (p:=zA m (q+b)) G id).trans e;obtain⟨aa,X,v,R⟩:=t.put (T:=402) (e:=220) GV Tryz.underlying402 (ai.out s g) ();have ax:(Instr.mapUpdate 402 (.map (some y)) (.string s) (.agg #[])).run Tryz.prog wr= .ok () aa:=X;have an:Au w aa:=o.AJ R fun k av f=>by have:=af.out;omega
   have r:Hid (∀ c,Ig h s () c=some ()↔c∈a.take (b+1)):=by
    intro c;rw[AP H,<- d];unfold Ig;split
    ·rename_i f;simp[f]
    ·rename_i f;rw[B.out c];simp[f]
   have ba:(0:Int)<=(b:Int):=by omega
   have aq:(b:Int)<(a.length:Int):=by omega
   clear d g e X t R o;go_wp2;go_roundg (gk-1)
   case measure=>omega
   case rel=>exact⟨b+1,_,by omega,by go_num,v,r.out,an⟩
  ·obtain rfl:b=a.length:=by omega
   have i:=B.out;rw[Cr] at i;have r:=Lh i;have aq:¬(a.length:Int)<(a.length:Int):=by omega
   have ae:=Lh t;have ad:=Lh o;obtain⟨A,rfl⟩:∃ A:Bc,A=wr:=⟨_,rfl⟩
   clear i B t o;go_wp2;go_loopg [27] xs.length fun am L wr=>∃ b:Nat,b+am=xs.length/\L=zI b/\(∀ bf∈xs.take b,bf∈a)/\Au A wr
   case atStart=>exact⟨0,Bz _,rfl,fun bf hx=>by simp at hx,Aa _ _⟩
   case round =>
    obtain⟨c,hq,rfl,S,E⟩:=hrel;have O:=Lh S;clear S;have v:=ae.out.AB E;have F:=ad.out.to E;by_cases K:c<xs.length
    ·obtain⟨m,q,rfl,G,e⟩:=Ay.BV (V:=Value.string) (fun _=>rfl) ab.out K;obtain⟨s,d⟩:∃ s,s=xs[c]:=⟨_,rfl⟩
     have g:s∈xs:=by rw[d];exact Br K
     rw[<- d] at e;have aj:Cl wr m (q+c) (.string s):=(F.cell (p:=zA m (q+c)) G id).trans e;have ag:Hid (xs.take (c+1)=xs.take c++[s]):=by show xs.take (c+1)=_;rw[AP K,d]
     have bb:(0:Int)<=(c:Int):=by omega
     have ar:(c:Int)<(xs.length:Int):=by omega
     have ao:Au A (wr.alloc (.cells #[] 220)):=E.alloc _;have x:=ah.out s g;by_cases j:s∈a
     ·have I:=v.Jc (T:=402) (e:=220) GV Tryz.underlying402 x ((r.out s).2 j) true;simp only[if_true,eQ] at I;have l:Hid (∀ bf∈xs.take (c+1),bf∈a):=by
       intro bf hx;rw[ag.out] at hx;rcases Bd.1 hx with hx|hx
       ·exact O.out bf hx
       ·rw[Ai.1 hx];exact j
      clear d g e j x;go_wp2;go_roundg (gk-1)
      case measure=>omega
      case rel=>exact⟨c+1,by omega,by go_num,l.out,ao⟩
     ·have U:h s=none:=by
       rcases C:h s with _|u
       ·rfl
       ·exact Bv ((r.out s).1 C) j
      have I:=v.JI (T:=402) (e:=220) (z:=.agg #[]) GV Tryz.underlying402 x U (by kernel_rfl) true;simp only[if_true] at I;have l:Hid (EF xs a=false):=by
       show EF xs a=false;exact QG fun C=>j (C s g)
      have ap:Au w (wr.alloc (.cells #[] 220)):=F.alloc _;clear d g e j U x;go_wp2;go_ret;exact⟨by rw[l.out];rfl,ap⟩
    ·have ar:¬(c:Int)<(xs.length:Int):=by omega
     have l:Hid (EF xs a=true):=by
      show EF xs a=true;have:=O.out;rw[Bt (by omega)] at this;exact Ju.2 this
     go_wp2;go_ret;exact⟨by rw[l.out];rfl,F⟩
theorem dM (b c:Option Addr) (f g:Nat) (xs a:List BB) (w:Bc) (hx:xs.length<=1000) (p:a.length<=1000) (h:Ay Value.string w w.heap.size 1 b xs) (i:Ay Value.string w w.heap.size 1 c a) (j:∀ s∈xs,Mk s) (k:∀ s∈a,Mk s) (l:EF xs a=true) (m:EF a xs=true) :
  Calls Tryz.prog 229 #[.slice b xs.length f,.slice c a.length g] w (Rt (.bool true) (Au w)):=by
 have d:=MM b c f g xs a w hx p h i j k;have e:=fun W (n:Au w W)=>MM c b g f a xs W p hx (i.AB n) (h.AB n) k j
 rw[l] at d;rw[m] at e;have q:=Lh d;have r:=Lh e;clear d e h i j k l m;go_in;go_wp2_with fail;refine q.out.mono ?_;rintro t v ⟨rfl,o⟩;go_wp2_with fail;refine(r.out _ o).mono ?_;rintro t x ⟨rfl,u⟩;go_wp2;go_ret;exact⟨rfl,o.to u⟩
end

section
open Go.RowKit Go.Shelf Go.Sort Go.Proofs
def Tryz.YA:Go.Shelf.Ren:=⟨fun|6=>182|15=>207|14=>211|28=>244|29=>245|20=>246|21=>247|22=>248|23=>249|24=>250|25=>251|26=>252|27=>253|46=>269|47=>264|48=>265|49=>270|50=>271|57=>278|a=>a,fun|22=>28|24=>27|25=>298|3=>3|39=>181|0=>0|53=>360|55=>180|4=>4|46=>353|45=>352|50=>285|5=>5|9=>9|66=>386|70=>390|76=>403|77=>404|a=>a,fun a=>a⟩
theorem Tryz.pK:Go.Proofs.SlLaysF.n6 Tryz.prog Tryz.YA where
 mixed:=by kernel_rfl
 f6:=⟨Tryz.f182.name,by decide,Tryz.func182.trans (Bu some (by kernel_rfl))⟩
 f14:=⟨Tryz.f211.name,by decide,Tryz.func211.trans (Bu some (by kernel_rfl))⟩
 f15:=Tryz.func207.trans (Bu some (by kernel_rfl))
 f20:=⟨Tryz.f246.name,by decide,Tryz.func246.trans (Bu some (by kernel_rfl))⟩
 f21:=⟨Tryz.f247.name,by decide,Tryz.func247.trans (Bu some (by kernel_rfl))⟩
 f22:=⟨Tryz.f248.name,by decide,Tryz.func248.trans (Bu some (by kernel_rfl))⟩
 f23:=⟨Tryz.f249.name,by decide,Tryz.func249.trans (Bu some (by kernel_rfl))⟩
 f24:=⟨Tryz.f250.name,by decide,Tryz.func250.trans (Bu some (by kernel_rfl))⟩
 f25:=⟨Tryz.f251.name,by decide,Tryz.func251.trans (Bu some (by kernel_rfl))⟩
 f26:=⟨Tryz.f252.name,by decide,Tryz.func252.trans (Bu some (by kernel_rfl))⟩
 f27:=⟨Tryz.f253.name,by decide,Tryz.func253.trans (Bu some (by kernel_rfl))⟩
 f28:=Tryz.func244.trans (Bu some (by kernel_rfl))
 f29:=Tryz.func245.trans (Bu some (by kernel_rfl))
 f46:=⟨Tryz.f269.name,by decide,Tryz.func269.trans (Bu some (by kernel_rfl))⟩
 f47:=Tryz.func264.trans (Bu some (by kernel_rfl))
 f48:=Tryz.func265.trans (Bu some (by kernel_rfl))
 f49:=⟨Tryz.f270.name,by decide,Tryz.func270.trans (Bu some (by kernel_rfl))⟩
 f50:=⟨Tryz.f271.name,by decide,Tryz.func271.trans (Bu some (by kernel_rfl))⟩
 f57:=⟨Tryz.f278.name,by decide,Tryz.func278.trans (Bu some (by kernel_rfl))⟩
 t0:=Tryz.underlying0
 a0:=Tryz.isAgg0
 z0:=Tryz.sizeOf0
 v0:=Tryz.zeroValue0
 t3:=Tryz.underlying3
 a3:=Tryz.isAgg3
 z3:=Tryz.sizeOf3
 v3:=Tryz.zeroValue3
 t4:=Tryz.underlying4
 a4:=Tryz.isAgg4
 z4:=Tryz.sizeOf4
 v4:=Tryz.zeroValue4
 t5:=Tryz.underlying5
 a5:=Tryz.isAgg5
 z5:=Tryz.sizeOf5
 v5:=Tryz.zeroValue5
 t9:=Tryz.underlying9
 a9:=Tryz.isAgg9
 z9:=Tryz.sizeOf9
 v9:=Tryz.zeroValue9
 t22:=Tryz.underlying28
 a22:=Tryz.isAgg28
 z22:=Tryz.sizeOf28
 v22:=Tryz.zeroValue28
 a24:=Tryz.isAgg27
 z24:=Tryz.sizeOf27
 t25:=Tryz.underlying298
 a25:=Tryz.isAgg298
 z25:=Tryz.sizeOf298
 v25:=Tryz.zeroValue298
 t39:=Tryz.underlying181
 a39:=Tryz.isAgg181
 z39:=Tryz.sizeOf181
 v39:=Tryz.zeroValue181
 t45:=Tryz.underlying352
 a45:=Tryz.isAgg352
 z45:=Tryz.sizeOf352
 v45:=Tryz.zeroValue352
 t46:=Tryz.underlying353
 a46:=Tryz.isAgg353
 z46:=Tryz.sizeOf353
 v46:=Tryz.zeroValue353
 t50:=Tryz.underlying285
 a50:=Tryz.isAgg285
 z50:=Tryz.sizeOf285
 v50:=Tryz.zeroValue285
 t53:=Tryz.underlying360
 a53:=Tryz.isAgg360
 z53:=Tryz.sizeOf360
 v53:=Tryz.zeroValue360
 t55:=Tryz.underlying180
 a55:=Tryz.isAgg180
 z55:=Tryz.sizeOf180
 v55:=Tryz.zeroValue180
 t66:=Tryz.underlying386
 a66:=Tryz.isAgg386
 z66:=Tryz.sizeOf386
 v66:=Tryz.zeroValue386
 t70:=Tryz.underlying390
 a70:=Tryz.isAgg390
 z70:=Tryz.sizeOf390
 v70:=Tryz.zeroValue390
 t76:=Tryz.underlying403
 a76:=Tryz.isAgg403
 z76:=Tryz.sizeOf403
 v76:=Tryz.zeroValue403
 t77:=Tryz.underlying404
 a77:=Tryz.isAgg404
 z77:=Tryz.sizeOf404
 v77:=Tryz.zeroValue404
def Tryz.Tg:Go.Shelf.Ren:=⟨fun|125=>207|128=>244|129=>245|a=>a,fun|46=>181|3=>3|51=>360|53=>180|4=>4|5=>5|9=>9|a=>a,fun a=>a⟩
theorem Tryz.bitsLen:Go.Proofs.Lays.n125 Tryz.prog Tryz.Tg where
 mixed:=by kernel_rfl
 f125:=Tryz.func207.trans (Bu some (by kernel_rfl))
 f128:=Tryz.func244.trans (Bu some (by kernel_rfl))
 f129:=Tryz.func245.trans (Bu some (by kernel_rfl))
 t3:=Tryz.underlying3
 a3:=Tryz.isAgg3
 z3:=Tryz.sizeOf3
 v3:=Tryz.zeroValue3
 t4:=Tryz.underlying4
 a4:=Tryz.isAgg4
 z4:=Tryz.sizeOf4
 v4:=Tryz.zeroValue4
 t5:=Tryz.underlying5
 a5:=Tryz.isAgg5
 z5:=Tryz.sizeOf5
 v5:=Tryz.zeroValue5
 t9:=Tryz.underlying9
 a9:=Tryz.isAgg9
 z9:=Tryz.sizeOf9
 v9:=Tryz.zeroValue9
 t46:=Tryz.underlying181
 a46:=Tryz.isAgg181
 z46:=Tryz.sizeOf181
 v46:=Tryz.zeroValue181
 t51:=Tryz.underlying360
 a51:=Tryz.isAgg360
 z51:=Tryz.sizeOf360
 v51:=Tryz.zeroValue360
 t53:=Tryz.underlying180
 a53:=Tryz.isAgg180
 z53:=Tryz.sizeOf180
 v53:=Tryz.zeroValue180
section
variable {w w' W:Bc}
def RN (a b:BB):Int:=if Ec a b then -1 else if Ec b a then 1 else 0
theorem T9 (a b:BB) (w:Bc):Calls Tryz.prog 183 #[.string a,.string b] w (Rt (zI (RN a b)) fun w'=>∃ q,w'=w.drewN q):=by
 have d:=Lh fun W=>PT a b W
 have f:=Lh fun W=>PT b a W
 have c:Hid (RN a b=if Ec a b then -1 else if Ec b a then 1 else 0):=Lh rfl;generalize RN a b=j at c ⊢;rcases e:Ec a b with _|_
 ·rcases h:Ec b a with _|_
  all_goals
   rw[e] at d;rw[h] at f;rw[e,h] at c;go_in;go_wp2_with fail;refine(d.out _).mono ?_;rintro g i ⟨rfl,rfl⟩;go_wp2_with fail;refine(f.out _).mono ?_;rintro g i ⟨rfl,rfl⟩;go_wp2;go_ret;exact⟨by rw[c.out];rfl,0,rfl⟩
 ·rw[e] at d c;go_in;go_wp2_with fail;refine(d.out _).mono ?_;rintro g i ⟨rfl,rfl⟩;go_wp2;go_ret;exact⟨by rw[c.out];rfl,0,rfl⟩
theorem X6 (blk off size:Nat) (w:Bc):CmpReads Tryz.prog 183 #[] Value.string RN blk off size w:=fun _ _ _ _ a b=>T9 a b _
theorem Z5 (n:Nat) (W:Bc) (c:n<=12):Calls Tryz.prog 207 #[.int .u64 n] W fun e w'=>(∃ l:Int,e= .returned (zI l))/\w'=W :=
 (Any.bits_Len Tryz.bitsLen n W (by omega) (by omega)).mono fun _ _ ⟨a,b⟩=>⟨⟨_,a⟩,b⟩
end
end
section
open Go.RowKit Go.Shelf Go.Sort Go.Proofs
section
variable {w w' W:Bc}
theorem UM {c : Type} [Inhabited c] (enc:c->Value) (b:Array Value) (a:List c) (f:a.length<=b.size):(putCells enc 0 a.toArray b).toList.take a.length=a.map enc:=by
 apply Gv;intro e;by_cases d:e<a.length
 ·rw[Cf d,Em];simp[putCells,d,show e<b.size by omega]
 ·rw[List.getElem?_take_eq_none (by omega),En (by simp;omega)]
theorem Wi {f : Type} [Inhabited f] {enc:f->Value} {base e g n c:Nat} {l a:List f} (j:w.ownsRow base e 1 (zS g 0 n c) n (l.map enc)) (u:a.length=l.length) (m:Nat) :
  ((putRow enc w g 0 a.toArray).drewN m).ownsRow base e 1 (zS g 0 n c) n (a.map enc)/\Am (fun k=>k=g) w ((putRow enc w g 0 a.toArray).drewN m):=by
 obtain⟨o,b⟩:=j;have x:l.length=n:=by simpa using o
 rcases b with⟨b,_⟩|⟨D,C,h,A,s,t,y,v,i,ht⟩
 ·cases b
 ·have B:=A;injection B with d _ q;injection d with d;injection d with r;subst r q;have p:((putRow enc w g 0 a.toArray).drewN m).heap[g]?= some (.cells (putCells enc 0 a.toArray h) e):=by
   show(putRow enc w g 0 a.toArray).heap[g]? = _;simp[putRow,mapBlock,E8,t,onCells]
  refine⟨⟨by simp[u,x],.inr ⟨g,c,_,rfl,s,p,y,v,by simp[putCells,i],?_⟩⟩,⟨rfl,rfl,rfl,by simp[putRow,mapBlock],fun k E z=>?_⟩⟩
  ·rw[Fy,show n=a.length by omega];exact UM enc h a (by rw[i];omega)
  ·show(putRow enc w g 0 a.toArray).heap[k]? = _;have:g≠k:=fun e=>z e.symm
   simp[putRow,mapBlock,E8,this]
theorem Yl {f : Type} [Inhabited f] {enc:f->Value} {base e g n c:Nat} {l:List f} (j:w.ownsRow base e 1 (zS g 0 n c) n (l.map enc)):Holds enc w g 0 l.toArray:=by
 obtain⟨m,a⟩:=j;have y:l.length=n:=by simpa using m
 rcases a with⟨a,_⟩|⟨u,t,k,s,v,i,z,x,A,ht⟩
 ·cases a
 ·injection s with b _ o;injection b with b;injection b with p;subst p o;intro d q;have r:d<l.length:=by simpa using q
  refine⟨?_,by simp[World.frozen?,i]⟩;have h:(k.toList.take (n*1))[d]?= (l.map enc)[d]?:=by rw[ht]
  rw[Cf (by omega)] at h;simp only[World.cell?,i,Bz];simp only[Gn,CJ,if_false];rw[<- Em,h];simp[r]
def Ml (l:List BB):List BB:=(Sort.insertionSort (ltOf RN) l.toArray 0 l.length).toList
theorem dP (a:BB):Ml [a]=[a]:=by
 unfold Ml Sort.insertionSort;rw[Sort.insOuter,Bg (by simp)]
theorem mJ (a b:BB):ltOf RN a b=Ec a b:=by
 unfold ltOf RN;split
 ·rename_i c;rw[c];decide
 ·rename_i c;have:Ec a b=false:=by simpa using c
  rw[this];split<;>decide
theorem lC (a b:BB):Ml [a,b]=if Ec b a then[b,a] else[a,b]:=by
 unfold Ml Sort.insertionSort;rw[Sort.insOuter,AQ (by simp),Sort.insOuter,Bg (by simp)];have c:Sort.insInner (ltOf RN) 0 (0+1) [a,b].toArray=if Ec b a then #[b,a] else #[a,b]:=by
  rw[Sort.insInner,show([a,b].toArray)[0+1]! = b from rfl,show([a,b].toArray)[0]! = a from rfl,mJ];rcases Ec b a with _|_
  ·rfl
  ·rfl
 rw[c];rcases Ec b a with _|_<;>rfl
theorem YB {base g c n:Nat} {l:List BB} (a:w.ownsRow base 27 1 (zS g 0 n c) n (l.map Value.string)) (i:l.length<=12) (m:(Ml l).length=l.length) :
  Calls Tryz.prog 182 #[zS g 0 n c,.func (.func 183) #[] #[]] w (Rt (.tuple #[]) fun w'=>w'.ownsRow base 27 1 (zS g 0 n c) n ((Ml l).map Value.string)/\Am (fun k=>k=g) w w'):=by
 have e:l.length=n:=by simpa using a.1
 have f:∀ b w,(callFunc 183 b).run Tryz.prog w= .ok (.enter 183 b) w:=enters_of Tryz.func183 (by kernel_rfl) rfl;have d:=Any.slices_SortFunc_small Tryz.pK Value.string (fun _=>rfl) RN 183 #[] g 0 c l.toArray w f (X6 g 0 _ w) (Yl a) (by simpa using i) Z5;rw[show l.toArray.size=n by simpa using e] at d;refine d.mono fun p w' h=>?_
 obtain⟨j,o,rfl⟩:=h;have:=Wi a m o;unfold Ml at this ⊢;rw[e] at this ⊢;exact⟨j,this.1,this.2⟩
end
end
section
open Go.RowKit Go.Shelf Go.Sort Go.Proofs
section
variable {w w' W:Bc}
theorem V3 (a:Addr) (c:Nat) (l:List BB) (w:Bc) (x:l.length<=100000) (i:Ay Value.string w w.heap.size 1 (some a) l) :
  Calls Tryz.prog 181 #[.slice (some a) l.length c] w fun e w'=>∃ d f,e= .returned (.slice d l.length f)/\w'.ownsRow w.heap.size 27 1 (.slice d l.length f) l.length (l.map Value.string)/\Au w w':=by
 obtain⟨t,n,q,r,s⟩:=info_parts Iz;have hq:=fun W=>Lib.run_eql_slice_nil (P:=Tryz.prog) W 28 27 (some a) l.length c 0 0 Tryz.underlying28
 have g:=IG w w.heap.size 27 1 (AY _);have o:=i.below (w':=w.alloc (.cells #[] 27)) fun j h=>Below.heap_alloc w _ j h
 have p:w.heap.size<=(w.alloc (.cells #[] 27)).heap.size:=by simp
 clear i;go_in;go_wp2_with (at_builtin;refine ER (V:=Value.string) rfl (.tmp 5) (.tmp 6) 28 rfl w.heap.size 27 t _ 1 16 Tryz.underlying28 n q r s rfl (by omega) (fun _=>rfl) MK _ _ _ rfl g _ (some a) _ c l rfl rfl o (by unfold maxLen;omega) (by omega) p ?_;intro y z b m;rw[Bz,BU,I8 fun _=>rfl] at b;obtain⟨u,v,rfl⟩:=BD b);go_ret;exact⟨_,_,rfl,b,((Aa _ w).alloc _).grown m fun j k h=>by have:=BQ g k;omega⟩
theorem ZH (A:Option Addr) (c:Nat) (w:Bc):Calls Tryz.prog 184 #[.slice A 1 c] w (Rt (.slice A 1 c) fun w'=>w=w'):=by
 go_in;go_wp2;go_ret;exact⟨rfl,rfl⟩
theorem toList_inj {c b:BB}:c.toList=b.toList↔c=b:=by
 rw[ByteArray.toList_eq,ByteArray.toList_eq];exact⟨fun a=>ByteArray.ext (Array.toList_inj.mp a),fun a=>by rw[a]⟩
theorem WG:(Builtin.zeroCells (Value.string ⟨#[]⟩).cells 1).toList=[zE]:=by kernel_rfl
theorem Wo {g:Nat} {cs:Array Value} {x:BB} (a:AX w g 27 cs) (b:cs[0]?= some (.string x)):Ay Value.string w w.heap.size 1 (some (zA g 0)) [x]:=fun e c=>by
 obtain rfl:e=0:=by simpa using c
 refine⟨g,0,rfl,a.lt,fun d f=>?_⟩;obtain rfl:d=0:=by omega
 exact(a.cell 0).trans b
def GN (x y:BB):List BB:=if x=y then[x] else[x,y]
theorem ZI {base g c:Nat} {x y:BB} (d:w.ownsRow base 27 1 (zS g 0 2 c) 2 [.string x,.string y]) :
  Calls Tryz.prog 184 #[zS g 0 2 c] w (Rt (zS g 0 (GN x y).length c) fun w'=>Ay Value.string w' w'.heap.size 1 (some (zA g 0)) (GN x y)/\(∃ cs,AX w' g 27 cs)/\Am (fun k=>k=g) w w'):=by
 obtain⟨K,r,N,n⟩:=KX d (j:=0) (by omega);cases r;have i:Cl w g 0 (.string x):=by have:=n 0 (by omega);simpa using this
 obtain⟨_,r,_,o⟩:=KX d (j:=1) (by omega);cases r;have l:Cl w g 1 (.string y):=by have:=o 0 (by omega);simpa using this
 have F:(Value.slice (some (zA g 0)) 2 c).ownBlock=some g:=by simp[Value.ownBlock]
 obtain⟨_,cs,e⟩:=Ic d F;obtain⟨O,M,_⟩:=Mc d;have J:=e.frozen 1;by_cases q:x=y
 ·subst q;have h:Hid (GN x x=[x]):=by show GN x x=_;unfold GN;rw[AQ rfl]
  have t:=Lh e;have I:=Lh i;have R:(1:Int)<=(c:Int):=by omega
  have G:IntKind.i64.wrap 0=0:=rfl;have v:cs[0]?= some (.string x):=by rw[<- e.cell 0];exact i
  have z:cs[1]?= some (.string x):=by rw[<- e.cell 1];exact l
  have Q:2<=cs.size:=(Array.getElem?_eq_some_iff.1 z).1;have s:=run_storeCells_at Tryz.prog g 1 27 [zE] 0 cs w.drew e (by show 1+0+1<=_;omega) (by simp[Value.oneCell']);obtain⟨b,p⟩:∃ b,b=(cs.toList.take (1+0)++[Value.string ⟨#[]⟩]++cs.toList.drop (1+0+1)).toArray:=⟨_,rfl⟩
  rw[show[Value.string ⟨#[]⟩].length=1 from rfl,<- p] at s;have L:∀ A,(Builtin.clear_ #[28] A #[zS g 1 1 (c-1)]).run Tryz.prog w.drew= .ok (.tuple #[]) (w.drew.setRow g b):=fun A=>by
   simp[Builtin.clear_,run_underlying Tryz.underlying28,WG,s]
  have B:Hid (AX (w.drew.setRow g b) g 27 b/\b[0]?= some (.string x)/\Am (fun k=>k=g) w (w.drew.setRow g b)):=by
   refine⟨GU (w:=w.drew) e b,?_,(Aa (fun k=>k=g) w).drew.AJ (EY w.drew g b) fun _ _ m=>m⟩;rw[p,List.getElem?_toArray,BJ,Cx (by rw[BA,Ci];omega),Cf (by omega),Em];exact v
  clear n o d s p v z;go_in;go_wp2;go_loopg [3] 2 fun gk f wr=>f=zI 1/\w=wr
  case atStart=>exact⟨rfl,rfl⟩
  case round =>
   obtain⟨rfl,rfl⟩:=hrel;go_wp2;refine GZ (fun W=>Cl W g 0 (.string x)/\Cl W g 1 (.string x)) ⟨i,l⟩ fun a=>?_
   refine hq 0 16 a ?_;refine hq 1 17 a ?_;refine hq 2 18 a ?_;refine hq 3 19 a ?_;refine hq 4 20 a ?_;refine hq 5 21 a ?_;refine hq 6 22 a ?_;refine hq 7 23 a ?_;refine hq 8 24 a ?_;refine hq 9 25 a ?_;refine zw ?_;go_wp2;go_loopg [3,5] 2 fun gk f H wr=>f=zI 1/\H=zI 1/\w.drew=wr
   case atStart=>exact⟨rfl,rfl,rfl⟩
   case round =>
    obtain⟨rfl,rfl,rfl⟩:=hrel;go_wp2;go_ret;obtain⟨u,D,E⟩:=B.out;refine⟨by rw[h.out];rfl,?_,⟨_,u⟩,E⟩;rw[h.out];exact Wo u D
 ·have h:Hid (GN x y=[x,y]):=by show GN x y=_;unfold GN;rw[Bg q]
  have P:(y.toList==x.toList)=false:=by
   rw[Cs];intro m;exact q (toList_inj.1 m.symm)
  have G:IntKind.i64.wrap 0=0:=rfl;have C:=Lh (Ay.Ea (V:=Value.string) (xs:=[x,y]) (fun _=>rfl) d);have t:=Lh e;clear n o d;go_in;go_wp2;go_loopg [3] 1 fun gk f wr=>(f=zI 1/\w=wr/\gk=1)∨(f=zI 2/\w.drew=wr)
  case atStart=>exact .inl ⟨rfl,rfl,rfl⟩
  case round =>
   rcases hrel with⟨rfl,rfl,rfl⟩|⟨rfl,rfl⟩
   ·go_wp2;refine GZ (fun W=>Cl W g 0 (.string x)/\Cl W g 1 (.string y)) ⟨i,l⟩ fun a=>?_
    refine hq 0 16 a ?_;refine hq 1 17 a ?_;refine hq 2 18 a ?_;refine hq 3 19 a ?_;refine hq 4 20 a ?_;refine hq 5 21 a ?_;refine hq 6 22 a ?_;refine hq 7 23 a ?_;refine hq 8 24 a ?_;refine hq 9 25 a ?_;refine zw ?_;go_wp2;go_roundg 0
    case measure=>omega
    case rel=>exact .inr ⟨rfl,rfl⟩
   ·go_wp2;go_ret;exact⟨by rw[h.out];rfl,by rw[h.out];exact C.out.AB ((Aa _ w).drew),⟨_,t.out⟩,(Aa _ w).drew⟩
end
end
section
open Go.RowKit Go.Shelf Go.Sort Go.Proofs
section
variable {w w' W:Bc}
theorem Tw (g n c:Nat) (w:Bc) (b:n<=c) (a:0<n):Calls Tryz.prog 185 #[zS g 0 n c] w (Rt (zS g 0 n n) fun w'=>w=w'):=by
 have d:(0:Int)<=(n:Int):=by omega
 have e:(n:Int)<=(c:Int):=by omega
 go_in;go_wp2;go_ret;exact⟨rfl,rfl⟩
def Xc (l:List BB):List BB:=match Ml l with
 |[b,c]=>GN b c
 |a=>a
def Zi (w:Bc) (l:List BB) (e:Ending) (w':Bc):Prop :=
 ∃ a b,e= .returned (.tuple #[zS a 0 (Xc l).length b,zO])/\Ay Value.string w' w'.heap.size 1 (some (zA a 0)) (Xc l)/\(∃ c,AX w' a 27 c)/\w.heap.size<=a/\Au w w'
theorem Si (a:BB):Xc [a]=[a]:=by unfold Xc;rw[dP]
theorem Ma (a b:BB):∃ x y,Ml [a,b]=[x,y]/\Xc [a,b]=GN x y/\(x=a/\y=b∨x=b/\y=a):=by
 unfold Xc;rw[lC];rcases Ec b a with _|_
 ·exact⟨a,b,rfl,rfl,.inl ⟨rfl,rfl⟩⟩
 ·exact⟨b,a,rfl,rfl,.inr ⟨rfl,rfl⟩⟩
theorem R5 (z:Addr) (c:Nat) (l:List BB) (w:Bc) (bn:(∃ a,l=[a])∨∃ a b,l=[a,b]) (S:∀ s∈l,CX s=true) (X:∀ s∈l,s.size<=1000000) (U:Ay Value.string w w.heap.size 1 (some z) l) :
  Calls Tryz.prog 143 #[.slice (some z) l.length c] w (Zi w l):=by
 have K:=Lh U;have ai:=Lh S;have ak:=Lh X;have ah:=Lh bn;have bi:l.length<=2:=by rcases bn with⟨a,rfl⟩|⟨a,b,rfl⟩<;>simp
 have bh:1<=l.length:=by rcases bn with⟨a,rfl⟩|⟨a,b,rfl⟩<;>simp
 have Y:(Ml l).length=l.length:=by
  rcases bn with⟨a,rfl⟩|⟨a,b,rfl⟩
  ·rw[dP]
  ·rw[lC];split<;>rfl
 have al:=Lh Y;clear U S X bn Y;go_in;go_wp2;go_loopg [9] l.length fun gk i wr=>∃ d:Nat,d+gk=l.length/\i=zI d/\Au w wr
 case atStart=>exact⟨0,Bz _,rfl,Aa _ _⟩
 case round =>
  obtain⟨d,av,rfl,bl⟩:=hrel;by_cases D:d<l.length
  ·obtain⟨b,o,an,ap,B⟩:=Ay.BV (fun _=>rfl) K.out D;cases an;obtain⟨s,F⟩:∃ s,s=l[d]:=⟨_,rfl⟩
   have G:s∈l:=by rw[F];exact Br D
   rw[<- F] at B;have bb:Cl wr b (o+d) (.string s):=(bl.cell (p:=zA b (o+d)) ap id).trans B;have y:=fun W=>Jk s W (ak.out s G)
   rw[ai.out s G] at y;have I:=Lh y;have bk:(0:Int)<=(d:Int):=by omega
   have Z:(d:Int)<(l.length:Int):=by omega
   clear F G B y;go_wp2_with fail;refine(I.out _).mono ?_;rintro e ab ⟨rfl,az,q⟩;have v:Au w ab:=by rw[q];exact bl.drewN az
   clear q I;go_wp2;go_roundg (gk-1)
   case measure=>omega
   case rel=>exact⟨d+1,by omega,by go_num,v⟩
  ·have Z:¬(d:Int)<(l.length:Int):=by omega
   have f:=Lh (V3 z c l wr (by omega) (K.out.AB bl));go_wp2_with fail;refine f.out.mono ?_;rintro e ab ⟨ba,m,rfl,bm,v⟩;have P:=bl.to v;obtain⟨h,rfl,bg,_⟩:=KX bm (j:=0) (by omega);have E:(Value.slice (some (zA h 0)) l.length m).ownBlock=some h:=by simp[Value.ownBlock]
   have bf:=BQ bm E;have bj:=bl.size;obtain⟨q,be,_⟩:=Mc bm;have J:=Lh (YB bm (by omega) al.out);clear f Z av D;go_wp2_with fail;refine J.out.mono ?_;rintro e H ⟨rfl,g,Q⟩;have A:Au w H:=P.AJ Q fun k aw e=>by omega
   clear J bm bl v P Q;rcases ah.out with⟨a,rfl⟩|⟨a,b,rfl⟩
   ·have j:Hid (Xc [a]=[a]):=Lh (Si a);rw[dP] at g;have x:=Ay.Ea (V:=Value.string) (fun _=>rfl) g;obtain⟨_,am,N⟩:=Ic g E;have f:=Lh (ZH (some (zA h 0)) m H);have u:=Lh (Tw h 1 m H (by simpa using q) (by omega));have ae:=Lh N;clear g N E;simp only[Cv];go_wp2_with fail;refine f.out.mono ?_;rintro e ad ⟨rfl,rfl⟩;go_wp2_with fail;refine u.out.mono ?_;rintro e ad ⟨rfl,rfl⟩;go_wp2;go_ret2;exact⟨h,1,by rw[j.out];rfl,by rw[j.out];exact x,⟨_,ae.out⟩,by omega,A⟩
   ·obtain⟨r,t,L,M,_⟩:=Ma a b;rw[L] at g;have j:=Lh M;have f:=Lh (ZI g);have aq:1<=(GN r t).length/\(GN r t).length<=2:=by unfold GN;split<;>simp
    obtain⟨ar,au⟩:=aq;clear L M g;simp only[BF,CV];go_wp2_with fail;refine f.out.mono ?_;rintro e ac ⟨rfl,x,⟨am,O⟩,R⟩;have ao:Au w ac:=A.AJ R fun k aw e=>by omega
    have T:(GN r t).length<=m:=by simp at q;omega
    have u:=Lh (Tw h (GN r t).length m ac T (by omega));have af:=Lh O;have aj:=Lh x;clear f x O R A;obtain⟨n,C⟩:∃ n,n=(GN r t).length:=⟨_,rfl⟩
    rw[<- C] at ar au u ⊢;have bc:decide ((n:Int)<1)=false:=by rw[Ag];omega
    have bd:decide (16<(n:Int))=false:=by rw[Ag];omega
    have ag:=Lh C;clear C T;go_wp2_with fail;refine u.out.mono ?_;rintro e ad ⟨rfl,rfl⟩;go_wp2;go_ret2;exact⟨h,n,by rw[j.out,<- ag.out];rfl,by rw[j.out];exact aj.out,⟨_,af.out⟩,by omega,ao⟩
end
end
structure Ca where
 kind:Int
 Aq:Int
 Ad:BB
 Bl:List BB
 BX:Int
 till:Int
 AO:Int
def Cu (c:Ca) (A:Option Addr) (k:Nat):Array Value:=#[zI c.kind,zU c.Aq,.string c.Ad,.slice A c.Bl.length k,zI c.BX,zI c.till,zI c.AO]
def Kq (s:BB):BB:=(IY s 0 1 (C8 [1])).1
structure LP (c:Ca):Prop where
 two:2<=Cc c.Ad
 may:CX c.Ad=true
 ok:(IY c.Ad 0 1 (C8 [1])).2=0
 qX:CX (Kq c.Ad)=true
 rF:EF c.Bl (Xc [c.Ad,Kq c.Ad])=true
 rG:EF (Xc [c.Ad,Kq c.Ad]) c.Bl=true
structure Hz (c:Ca) (f:BB):Prop where
 one:c.kind=1->Ev c.Ad [1]=true/\Cc f=2/\G6 f 0/8192=3/\G6 f 1/8192=5
 two:c.kind=2->Ev c.Ad [1]=true/\f=C8 [c.Aq]
 three:c.kind=3->Ev c.Ad [2]=true
 four:c.kind=4->Ev c.Ad [3]=true/\Ev f [4]=true
 five:c.kind=5->Ev c.Ad [1,2]=true/\2<=Cc f/\G6 f (Cc f-1)/8192=5
def Pj (c:Ca):Prop:=c.kind=6∨(c.kind=7/\LP c)∨(1<=c.kind/\c.kind<=5/\∃ a,c.Bl=[a]/\Hz c a)
structure Cn (c:Ca):Prop where
 k1:1<=c.kind
 k7:c.kind<=7
 su:Ey c.Aq
 sk:c.Aq/8192=1
 may:CX c.Ad=true
 set:D9 c.Bl=true
 sp:c.Ad.size<=16
 fo:∀ s∈c.Bl,s.size<=16
 f0:0<=c.BX
 ft:c.BX<=c.till
 tm:c.till<=4611686018427387904
 s0:0<=c.AO
 sm:c.AO<=4611686018427387904
 len:∀ s∈c.Bl,Cc c.Ad<=Cc s
 like:Pj c
section
variable {w w' W:Bc}
theorem KW {b n k:Nat} {cs:Array Value} {t:TypeId} (l:List Int) (d:l.length=n) (c:cs.toList=l.map JC) (f:l.length<=1000) (e:∀ x∈l,Ey x) (W:Bc) (a:AX W b t cs) :
  Calls Tryz.prog 91 #[zS b 0 n k] W (Rt (.string (C8 l)) (Au W)):=by
 subst d;exact mM _ _ l _ (by omega) (Gf (fun _=>rfl) a l c) e
theorem Ni {b n k:Nat} {cs:Array Value} {t:TypeId} (a:List Int) (c:Int) (f:a.length=n) (e:cs.toList=a.map iV) (g:a.length<=1000) (ha:Ey c) (W:Bc) (d:AX W b t cs) :
  Calls Tryz.prog 151 #[zU c,zS b 0 n k] W (Rt (.bool (decide (c/8192∈a))) fun w'=>W=w'):=by
 subst f;exact TR _ _ _ a c _ ha (by omega) (Gf (fun _=>rfl) d a e)
theorem JA {b n k:Nat} {cs:Array Value} {t:TypeId} (a:List Int) (s:BB) (g:s.size<=1000000) (f:a.length=n) (d:cs.toList=a.map iV) (e:a.length<=1000) (W:Bc) (c:AX W b t cs) :
  Calls Tryz.prog 196 #[.string s,zS b 0 n k] W (Rt (.bool (Ev s a)) (Au W)):=by
 subst f;exact Xo _ _ a s _ g e (Gf (fun _=>rfl) c a d)
theorem Mv {g:Nat} {c:Ca} {A:Option Addr} {k:Nat} {t:TypeId} (a:AX w g t (Cu c A k)):Cl w g 0 (zI c.kind)/\Cl w g 1 (zU c.Aq)/\Cl w g 2 (.string c.Ad)/\Cl w g 3 (.slice A c.Bl.length k)/\Cl w g 4 (zI c.BX)/\Cl w g 5 (zI c.till)/\Cl w g 6 (zI c.AO) :=
 ⟨a.cell 0,a.cell 1,a.cell 2,a.cell 3,a.cell 4,a.cell 5,a.cell 6⟩
theorem Qb {c b s:BB} (a:s∈Xc [c,b]):s=c∨s=b:=by
 obtain⟨f,g,_,d,e⟩:=Ma c b;rw[d] at a;unfold GN at a;rcases e with⟨rfl,rfl⟩|⟨rfl,rfl⟩<;>split at a<;>simp at a<;>(try rcases a with a|a)<;>simp_all
theorem Wd (a b:BB):(Xc [a,b]).length<=2:=by
 obtain⟨e,f,_,c,d⟩:=Ma a b;rw[c];unfold GN;split<;>simp
theorem X7 (c:Ca) (A:Option Addr) (k:Nat) (w:Bc) (o:LP c) (R:D9 c.Bl=true) (bi:c.Ad.size<=16) (P:∀ s∈c.Bl,s.size<=16) (bj:(Kq c.Ad).size<=100) (Q:Ay Value.string w w.heap.size 1 A c.Bl) :
  Calls Tryz.prog 195 #[.agg (Cu c A k)] w (Rt (.bool true) (Au w)):=by
 obtain⟨bf,bg,bh⟩:=Cm R;have X:=Lh Q;have h:=Lh o;have V:=Lh P;have aj:decide (Cc c.Ad<2)=false:=by rw[Ag];have:=o.two;omega
 have t:=Lh fun W=>F5 c.Ad W (by unfold maxLen;omega)
 have r:=fun W=>UL c.Ad 0 1 (C8 [1]) W (by omega) (by rw[FD];simp) (K3 (by omega) (by omega)) (K3 (by omega) (by omega))
 rw[o.ok] at r;have K:Hid (∀ W,Calls Tryz.prog 228 #[.string c.Ad,zO,zI 1,.string (C8 [1])] W (Rt (.tuple #[.string (Kq c.Ad),zO]) fun w'=>∃ k,w'=W.drewN k)):=Lh r;have f:Hid (AX (w.alloc (.cells (Cu c A k) 31)) w.heap.size 31 (Cu c A k)):=Lh (AX.new w _ _);have l:Hid (Au w (w.alloc (.cells (Cu c A k) 31))):=Lh ((Aa _ w).alloc _);have J:=Lh fun(W:Bc) (j k:Nat) (B:AX W j 25 #[zU 1])=>KW (k:=k) (n:=1) [1] rfl rfl (by decide) (by intro x hx;simp at hx;subst hx;exact⟨by decide,by decide⟩) W B
 generalize an:Cc c.Ad=bk at aj t;generalize S:Kq c.Ad=d at *;generalize ap:C8 [1]=bd at K J;have O:Cu c A k=#[zI c.kind,zU c.Aq,.string c.Ad,.slice A c.Bl.length k,zI c.BX,zI c.till,zI c.AO]:=rfl;clear an ap Q o P R r;go_in;rw[O] at f l ⊢;go_wp2_with fail;rw[<- O] at f l ⊢;generalize w.alloc (.cells (Cu c A k) 31)=e at f l ⊢;have C:=f.out;obtain⟨Y,v,bp,ab,ad,af,ah⟩:=Mv C;refine(t.out _).mono ?_;rintro i bn ⟨rfl,rfl⟩;clear t;go_wp2_with fail;go_upto_region 3 with(fail)
 have u:=Lh C.lt;clear Y v ab ad af ah C;go_cut [3,4] fun aq ar W=>aq= .string d/\ar=zO/\Au e W
 case first =>
  go_region_held3 (fun W=>Cl W w.heap.size 2 (.string c.Ad))
   (first
    |exact bp
    |exact bq
    |exact L
    |exact((((T0 e).alloc _).drew).cell (p:=zA w.heap.size 2) u.out id).trans bp)
   (first
    |(go_at_call 91;refine(J.out _ _ _ (AX.drew (AX.new e _ _))).mono ?_;rintro i q ⟨rfl,al⟩;have N:Au e q:=((Aa _ e).alloc _).drew.to al;have bq:Cl q w.heap.size 2 (.string c.Ad):=(N.cell (p:=zA w.heap.size 2) u.out id).trans bp)
    |(go_at_call 228;refine(K.out _).mono ?_;rintro i bl ⟨rfl,F,rfl⟩;have m:Au e (q.drewN F):=N.drewN F;have L:(q.drewN F).cell? (zA w.heap.size 2)=some (.string c.Ad):=(m.cell (p:=zA w.heap.size 2) u.out id).trans bp))
  go_wp2;go_meet;exact⟨rfl,rfl,m⟩
 case rest =>
  obtain⟨rfl,rfl,g⟩:=hcut;have M:=f.out.Ab g id;obtain⟨Z,aa,bq,ac,ae,ag,ai⟩:=Mv M;clear bp;have E:=l.out.to g;have H:=fun(W:Bc) (g:Au w W) (j k:Nat) (B:AX W j 27 #[.string c.Ad,.string d])=>R5 (zA j 0) k [c.Ad,d] W (.inr ⟨_,_,rfl⟩) (by intro s a;simp at a;rcases a with rfl|rfl;exact h.out.may;rw[<- S];exact h.out.qX) (by intro s a;simp at a;rcases a with rfl|rfl<;>omega) (Gf (fun _=>rfl) B [c.Ad,d] rfl)
  have T:=Lh H;have y:=h.out.rF;have z:=h.out.rG;rw[S] at y z;have I:=fun(W:Bc) (g:Au wc W) (G:Option Addr) (bp v:Nat) (ak:Ay Value.string W W.heap.size 1 G (Xc [c.Ad,d]))=>dM A G v bp c.Bl (Xc [c.Ad,d]) W (by omega) (by have:=Wd c.Ad d;omega) ((X.out.AB E).AB g) ak (fun s a=>by have:=V.out s a;unfold Mk maxLen;omega) (fun s a=>by unfold Mk maxLen;rcases Qb a with rfl|rfl<;>omega) y z
  have U:=Lh I;clear H I y z;go_wp2_with (first
   |(go_at_call 143;refine(T.out _ (by exact E.alloc _) _ _ (by exact AX.new wc _ _)).mono ?_;rintro i au ⟨b,bc,rfl,ao,_,be,m⟩;have D:Au wc au:=((Aa _ wc).alloc _).to m;obtain⟨aw,ax,L,ay,az,ba,bb⟩:=Mv (M.Ab D id);clear Z aa bq ac ae ag ai)
   |(go_at_call 229;refine(U.out _ D _ _ _ ao).mono ?_;rintro i bm ⟨rfl,am⟩))
  go_ret;exact⟨rfl,E.to (D.to am)⟩
end

end Go.Proofs.YtcjcndnjpedniaaGreat
