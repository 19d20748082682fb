/- A part of the proof of TopUsers. -/
import Derived.Deep.RegionWith
import Derived.Test.YtcjcndnjpedniaaGreatB27
namespace Go.Proofs.YtcjcndnjpedniaaGreat
set_option linter.all false
set_option maxRecDepth 100000
set_option maxHeartbeats 8000000
open Go.RowKit
section
namespace Led
open Go.Maps (Keyed)
theorem NE.AB {w w':Bc} {p:Nat} {f c g d h e:Value} {S:List Vl} {M:List Made} {T:List Int} (a:NE w p f c g d h e S M T) (b:Au w w'):NE w' p f c g d h e S M T :=
 ⟨a.BR.Ab b id,GX a.r1 b fun _ _ a=>a,GX a.r2 b fun _ _ a=>a,GX a.r3 b fun _ _ a=>a,a.nG,a.oQ,a.oU⟩
theorem Grow.before {F:Nat->Prop} {w b w':Bc} {k:Nat} (a:Grow F b w' k) (c:w.heap.size<=b.heap.size):Grow F w w' k:=a.imp id fun a=>⟨AV c a.1,a.2⟩
def OZ (b a sq y:Int):Prop:=b/8192=2/\(a=0∨a=1)/\0<=sq/\0<=y
theorem fA (c d sq:Int) (s:BB) (y:Int) (p:Nat) (w:Bc) (n:0<=c) (o:c<=65535) (b:¬OZ c d sq y) :
  Calls Tryz.prog 67 #[zP p,.agg #[zU c,zI d,zI sq,.string s],zI y] w (Rt (zI 1) (Au w)):=by
 unfold OZ at b;by_cases ha:c/8192=2
 ·have h:(c/8192!=2)=false:=by simp[ha]
  by_cases a:d=0∨d=1
  ·by_cases e:sq<0
   ·have i:decide (sq<0)=true:=by simpa using e
    rcases a with a|a
    all_goals
     subst a;clear b ha e;go_in;go_wp2_with (first|(go_at_call 64;refine(FL _ (by omega) (by omega) _).mono ?_;rintro f g ⟨rfl,rfl⟩));go_ret;exact⟨rfl,(Aa _ w).alloc _⟩
   ·have i:decide (sq<0)=false:=by simpa using e
    have m:decide (y<0)=true:=by simpa using fun j=>b ⟨ha,a,by omega,j⟩
    rcases a with a|a
    all_goals
     subst a;clear b ha e;go_in;go_wp2_with (first|(go_at_call 64;refine(FL _ (by omega) (by omega) _).mono ?_;rintro f g ⟨rfl,rfl⟩));go_ret;exact⟨rfl,(Aa _ w).alloc _⟩
  ·have k:(d != 0)=true:=by simpa using fun b=>a (.inl b)
   have l:(d != 1)=true:=by simpa using fun b=>a (.inr b)
   clear b ha a;go_in;go_wp2_with (first|(go_at_call 64;refine(FL _ (by omega) (by omega) _).mono ?_;rintro f g ⟨rfl,rfl⟩));go_ret;exact⟨rfl,(Aa _ w).alloc _⟩
 ·have h:(c/8192!=2)=true:=by simpa using ha
  clear b ha;go_in;go_wp2_with (first|(go_at_call 64;refine(FL _ (by omega) (by omega) _).mono ?_;rintro f g ⟨rfl,rfl⟩));go_ret;exact⟨rfl,(Aa _ w).alloc _⟩
theorem YV (R:Ending->Bc->Prop) (a d sq:Int) (s:BB) (y:Int) (p:Nat) (w:Bc) (m:0<=a) (n:a<=65535) (f:OZ a d sq y)
  (C:Hid (Calls Tryz.prog 117 #[.pointer (some (zA p 2)),.agg #[zU a,zI d,zI sq,.string s,zI y],zI 2000] (w.alloc (.cells #[zU a,zI d,zI sq,.string s] 159)).drew fun e w'=>∃ c,e= .returned (zI c)/\R (.returned (zI c)) w')) :
  Calls Tryz.prog 67 #[zP p,.agg #[zU a,zI d,zI sq,.string s],zI y] w R:=by
 obtain⟨ha,b,h,i⟩:=f;have j:(a/8192!=2)=false:=by simp[ha]
 have k:decide (sq<0)=false:=by simpa using h
 have l:decide (y<0)=false:=by simpa using i
 rcases b with b|b
 all_goals
  subst b;clear ha;go_in;go_wp2_with (first|(go_at_call 64;refine(FL _ (by omega) (by omega) _).mono ?_;rintro e w' ⟨rfl,rfl⟩));go_region_with (go_at_call 117;refine C.out.mono ?_;rintro e o ⟨c,rfl,g⟩)
  all_goals go_wp2
  all_goals go_ret
  all_goals exact g
theorem nI (F:Nat->Prop) (p:Nat) (S:List Vl) (M:List Made) (T:List Int) (m:Zf) (y:Int) (w:Bc) (B:oZ m) (E:i64 y) (z:M.length<=2000) (d:GK w F p S M T) :
  Calls Tryz.prog 67 #[zP p,qR m,zI y] w (Rt (zI (Ld M m y).1) fun w'=>GK w' (Grow F w w') p S (Ld M m y).2 T/\Am F w w'):=by
 obtain⟨a,c,b,e⟩:=m;obtain⟨ha,D,C,t⟩:=B;by_cases g:OZ a c b y
 ·obtain⟨I,G,l,k,J,H,s,v⟩:=d;have A:(M.map Lf).length<=2000:=by simpa using z
  have f:Au w (w.alloc (.cells #[zU a,zI c,zI b,.string e] 159)).drew:=((Aa _ w).alloc _).drew;have i:=s.AB f;refine YV _ a c b e y p w ha.1 ha.2 g (Lh ((aZ p 2 129 #[I,G,l,k,J,H] l k (M.map Lf) a c b e y _ (hasB ((a,c,b,e),y) M) (by decide) i.BR rfl rfl i.r2 (OO XX) (aL ha D C t E) A).mono ?_));rintro n w' ⟨rfl,j⟩;have h:(Ld M (a,c,b,e) y).1=_:=WB (M:=M) (m:=(a,c,b,e)) (y:=y) g;have o:(Ld M (a,c,b,e) y).2.map Lf=_:=WC (M:=M) (m:=(a,c,b,e)) (y:=y) g;rw[<- o] at j;obtain⟨q,r⟩:=Vv i v j;exact⟨_,rfl,jI h.symm,q.wider fun K x=>x.before f.size,(f.mono fun _ _ d=>d.elim).AJ r fun _ _ d=>d⟩
 ·have h:Ld M (a,c,b,e) y=(1,M):=Bg g;rw[h];exact(fA a c b e y p w ha.1 ha.2 g).mono fun n w' ⟨u,f⟩=>⟨u,(d.AB f).wider fun _ d=>.inl d,f.mono fun _ _ d=>d.elim⟩
end Led
end
section
namespace Led
open Go.Maps (Keyed)
theorem KX {w:Bc} {base e size n:Nat} {A:Option Addr} {c:Nat} {xs:List Value} (a:w.ownsRow base e size (.slice A n c) n xs) {j:Nat} (k:j<n):∃ g,A=some (zA g 0)/\g<w.heap.size/\∀ i,i<size->w.cell? (zA g (j*size+i))=xs[j*size+i]?:=by
 rcases a.2 with⟨a,o⟩|⟨g,m,d,l,_,b,q,_,r,ht⟩
 ·omega
 ·injection l with f _ h;subst f h;refine⟨g,rfl,Et b,fun i p=>?_⟩;rw[cell_of_row w g _ d e (0,0) b,<- ht];rw[Cf (by
   have:(j+1)*size<=n*size:=Fj _ k;rw[EK] at this;omega)]
  simp
theorem LU {c h : Type} (f:c->List h) (size:Nat):∀ (xs:List c),(∀ x∈xs,(f x).length=size)->∀ j i,i<size->(xs.flatMap f)[j*size+i]?= (xs[j]?).bind fun x=>(f x)[i]?
 |[],_,j,i,_=>by simp
 |x::xs,a,0,i,b=>by
  have hx:(f x).length=size:=a x (by simp);simp only[CY,FU,Bz,Es,Option.bind_some];rw[Cx (by omega)]
 |x::xs,a,j+1,i,b=>by
  have hx:(f x).length=size:=a x (by simp);simp only[CY,List.getElem?_cons_succ];rw[Cq (by rw[hx,EK];omega),hx];have d:(j+1)*size+i-size=j*size+i:=by rw[EK];omega
  rw[d];exact LU f size xs (fun g e=>a g (by simp[e])) j i b
theorem Nr {d : Type} (V:d->Value) {w:Bc} {base e size:Nat} {A:Option Addr} {c:Nat} {xs:List d} (m:∀ x,(V x).cells.size=size) (f:w.ownsRow base e size (.slice A xs.length c) xs.length ((xs.map V).flatMap (·.cells.toList))) {j:Nat} (b:j<xs.length) :
  ∃ g,A=some (zA g 0)/\g<w.heap.size/\∀ i,i<size->w.cell? (zA g (j*size+i))=(V xs[j]).cells[i]?:=by
 obtain⟨g,h,k,l⟩:=KX f b;refine⟨g,h,k,fun i a=>?_⟩;rw[l i a,LU _ size _ (by
  intro x hx;obtain⟨n,_,rfl⟩:=Bp.1 hx;simpa using m n) j i a,Ch,Ah b]
 simp
end Led
end
section
namespace Led
open Go.Maps (Keyed)
def Ih (M:List Made) (m:Zf):List Int:=(M.filter fun a=>decide (a.1=m)).map (·.2)
theorem YW {M:List Made} {m:Zf} {j:Nat} (b:j<M.length) (a:M[j].1=m):Ih (M.take (j+1)) m=Ih (M.take j) m++[M[j].2]:=by
 unfold Ih;rw[AP b,List.filter_append,Bw]
 congr 1
 simp[a]
theorem fC {M:List Made} {m:Zf} {j:Nat} (b:j<M.length) (a:M[j].1≠m):Ih (M.take (j+1)) m=Ih (M.take j) m:=by
 unfold Ih;rw[AP b,List.filter_append,Bw];simp[a]
theorem fB (M:List Made) (m:Zf):(Ih M m).length<=M.length:=by
 simp only[Ih,Be];exact EU _ _
theorem bytes_inj {c b:BB}:c.toList=b.toList↔c=b:=by
 rw[ByteArray.toList_eq,ByteArray.toList_eq];exact⟨fun a=>ByteArray.ext (Array.toList_inj.mp a),fun a=>by rw[a]⟩
theorem bytes_beq {a b:BB}:(a.toList==b.toList)=decide (a=b):=by
 rw[Bool.eq_iff_iff];simp[bytes_inj]
theorem ZU (a e sq:Int) (s:BB) (b f d:Int) (c:BB) (g:Bc) :
  (Op.equalIn 10000 159 (.agg #[zU b,zI f,zI d,.string c]) (.agg #[zU a,zI e,zI sq,.string s])).run Tryz.prog g= .ok (decide ((b,f,d,c)=(a,e,sq,s))) g:=by
 go_simp;by_cases h:b=a<;>by_cases i:f=e<;>by_cases j:d=sq<;>by_cases k:c=s<;>simp[h,i,j,k,bytes_inj]
theorem aH:(Tryz.prog.info? 3).map (fun i=>(i.zero,i.size,i.bytes))=some (some zO,1,8):=by kernel_rfl
theorem nJ (F:Nat->Prop) (p:Nat) (S:List Vl) (M:List Made) (T:List Int) (b c sq:Int) (s:BB) (w:Bc) (ah:M.length<=2000) (i:GK w F p S M T) :
  Calls Tryz.prog 189 #[zP p,.agg #[zU b,zI c,zI sq,.string s]] w fun e w'=>∃ v,e= .returned v/\w'.ownsRow w.heap.size 3 1 v (Ih M (b,c,sq,s)).length ((Ih M (b,c,sq,s)).map (.int .i64))/\Au w w':=by
 obtain⟨P,I,K,L,N⟩:=info_parts aH;obtain⟨ar,ao,au,ap,av,aq,j,H⟩:=i;obtain⟨U,V,rfl⟩:=BD j.r2.own;have D:=j.r2.own;simp only[Be] at D ⊢;have Q:=j.BR.cell 2;simp at Q;have ai:=j.BR.lt;clear j H;go_in;go_wp2;go_loopg [5,14] M.length fun gk v O wr=>∃ a:Nat,a+gk=M.length/\O=zI a/\wr.ownsRow w.heap.size 3 1 v (Ih (M.take a) (b,c,sq,s)).length ((Ih (M.take a) (b,c,sq,s)).map (.int .i64))/\AX wr w.heap.size 159 #[zU b,zI c,zI sq,.string s]/\Au w wr
 case atStart=>exact⟨0,Bz _,rfl,⟨rfl,.inl ⟨rfl,rfl⟩⟩,AX.new w _ _,(Aa _ _).alloc _⟩
 case round =>
  obtain⟨a,af,rfl,l,d,bb⟩:=hrel;by_cases B:a<M.length
  ·obtain⟨h,rfl,ae,f⟩:=Nr Lf (fun _=>rfl) (Aj D bb fun _ _ i=>i) B;obtain⟨⟨⟨n,r,q,o⟩,C⟩,z⟩:∃ R,R=M[a]:=⟨_,rfl⟩
   rw[<- z] at f;have W:Cl wr h (a*5) (zU n):=f 0 (by omega);have X:Cl wr h (a*5+1) (zI r):=f 1 (by omega);have Y:Cl wr h (a*5+2) (zI q):=f 2 (by omega);have Z:Cl wr h (a*5+3) (.string o):=f 3 (by omega);have aa:Cl wr h (a*5+4) (zI C):=f 4 (by omega);have ax:Cl wr w.heap.size 0 (zU b):=d.cell 0;have ay:Cl wr w.heap.size 1 (zI c):=d.cell 1;have az:Cl wr w.heap.size 2 (zI sq):=d.cell 2;have ba:Cl wr w.heap.size 3 (.string s):=d.cell 3;have am:=d.lt;clear f;have x:=Lh z;clear z;have al:(Ih (M.take a) (b,c,sq,s)).length<=a:=AV (fB _ _) (List.length_take_le _ _);have ak:=bb.size;by_cases g:(n,r,q,o)=(b,c,sq,s)
   ·have u:=Lh (YW (m:=(b,c,sq,s)) B (by rw[<- x.out];exact g));have A:=fun y=>ZU b c sq s n r q o y
    rw[BH g] at A;clear g;go_wp2_with (at_builtin;refine wpList_append_lies _ (by rfl) _ _ _ (by rfl) w.heap.size 3 P _ 1 8 Tryz.underlying205 I K L N rfl (by omega) u5 _ _ (by rfl) ((l.alloc _).alloc _) (zA (wr.heap.size+1) 0) 1 1 [zI C] (by rfl) (by rfl) (World.news_of_block (cs:=#[zI C]) (t:=3) (fr:=(0,0)) (by simpa using heap_alloc_new (wr.alloc _) _)) (by simp[Value.oneCell']) (by omega) (by unfold maxLen;omega) (by omega) (by simp;omega) (wr.heap.size+2) (by simp) ?_;intro ac ab aw G E ad aj);go_roundg (gk-1)
    case measure=>omega
    case rel =>
     refine⟨a+1,by omega,by go_num,?_,?_,?_⟩
     ·rw[u.out,<- x.out];simpa using G
     ·exact((d.alloc _).alloc _).grown E (BZ (Ba l d (by decide)))
     ·exact(((bb.alloc _).alloc _).grown E fun k i ag=>Bv (BQ l i) (by omega))
   ·have u:=Lh (fC (m:=(b,c,sq,s)) B (by rw[<- x.out];exact g));have A:=fun y=>ZU b c sq s n r q o y
    rw[BC g] at A;clear g;go_wp2;go_roundg (gk-1)
    case measure=>omega
    case rel=>exact⟨a+1,by omega,by go_num,by rw[u.out];exact l.alloc _,d.alloc _,bb.alloc _⟩
  ·have J:a=M.length:=by omega
   subst J;go_wp2;go_ret;exact⟨_,rfl,by simpa using l,bb⟩
end Led
end
section
variable {W W':Bc} {F S:Nat->Prop} {b k g:Nat}
theorem bD {P:Program} {d:TypeId} {l:List (Value × Value)} (a:Cw W P d k l):¬G5 b W k:=fun⟨_,_,_,c,_⟩=>a.Ee c rfl
theorem LB {base e size n:Nat} {v:Value} {xs:List Value} (c:W.ownsRow base e size v n xs) (d:v.ownBlock=some g) (f:e≠168:=by decide) (h:e≠226:=by decide):g<W.heap.size/\¬G5 b W g:=by
 obtain⟨_,i,a⟩:=Ic c d;exact⟨a.lt,G5.not a f h⟩
theorem FJ {ty:TypeId} {cs:Array Value} (a:AX W k ty cs) (c:ty≠168:=by decide) (d:ty≠226:=by decide):k<W.heap.size/\¬G5 b W k:=⟨a.lt,G5.not a c d⟩
theorem PP {c size:Nat} {e d:Value} {xs:List Value} (a:Led.EC W Tryz.prog c size e d xs) (g:c≠168:=by decide) (h:c≠226:=by decide) (hk:e.ownBlock=some k∨d= .map (some k)):k<W.heap.size/\¬G5 b W k:=by
 refine⟨Led.Sq a k hk,?_⟩;rcases hk with hk|hk
 ·exact(LB a.own hk g h).2
 ·rintro⟨_,_,_,f,_⟩;exact a.set.Ee hk f rfl
end
def Eg (p:Nat) (S:List Led.Vl) (M:List Led.Made) (T:List Int):Eb where
 P W F:=Led.GK W F p S M T
 tab:=false
 Ab h hT hF:=h.Ab hT hF
 core b h:=by
  obtain⟨j,f,l,g,m,i,c,e⟩:=h;refine⟨j,f,l,g,m,i,c,fun k a=>⟨e k a,?_⟩⟩;suffices d:k<_/\¬G5 b _ k from⟨d.1,.inr d.2⟩
  ·rcases a with rfl|a|a|a
   ·exact FJ c.BR
   ·exact PP c.r1 (hk:=a)
   ·exact PP c.r2 (hk:=a)
   ·exact PP c.r3 (hk:=a)
 wider h hG:=h.wider hG
def Dz (base s:Nat) (room:Int) (L:List Ca):Eb where
 P W F:=∃ e,e.map (·.c)=L/\FN W F base s room e
 tab:=false
 Ab a hT hF:=by
  obtain⟨e,f,a⟩:=a;exact⟨e,f,a.Ab hT hF⟩
 core b a:=by
  obtain⟨e,f,p,l,q,m,n,d,o⟩:=a;refine⟨e,f,p,l,q,m,n,d,fun k i=>⟨o k i,?_⟩⟩;suffices j:k<_/\¬G5 b _ k from⟨j.1,.inr j.2⟩
  ·rcases i with rfl|rfl|rfl|rfl|⟨v,r,a,h⟩|⟨t,a,h⟩
   ·exact FJ d.BR
   ·exact⟨d.nums.lt,fun⟨_,_,_,g,_⟩=>d.nums.Ee g rfl⟩
   ·exact⟨d.bytes.lt,fun⟨_,_,_,g,_⟩=>d.bytes.Ee g rfl⟩
   ·exact⟨d.words.lt,fun⟨_,_,_,g,_⟩=>d.words.Ee g rfl⟩
   ·exact LB (d.rows v r a).1 h
   ·exact LB (d.Bl t a) h
 wider a hG:=by
  obtain⟨e,f,a⟩:=a;exact⟨e,f,a.mono hG⟩
def EP (p a:Nat) (room uses:Int) (Y:List (Iu × Int)):Eb where
 P W F:=Da W p a room uses Y/\F p/\F a
 tab:=false
 Ab h hT hF:=⟨h.1.Ab hT (hF _ h.2.1) (hF _ h.2.2),h.2⟩
 core b h:=by
  obtain⟨d,c,_⟩:=h.1.map;exact⟨h.1,⟨h.2.1,h.1.lt.1,.inr (FJ h.1.BR).2⟩,h.2.2,h.1.lt.2,.inr (bD c)⟩
 wider h hG:=⟨h.1,hG _ h.2.1,hG _ h.2.2⟩
def Zo (x:EH):Int × List BB × Int:=(x.ch,x.who,x.last)
def Zl (W:Bc) (F:Nat->Prop) (base t a:Nat) (room:Int) (E:List EH) (G:List Int):Prop :=
 EO W base t a room E G/\F t/\F a/\(∃ v,AX W t 168 #[zI room,v,.map (some a)]/\W.ownsRow base 226 3 v E.length (BN Ib E)/\∀ g,v.ownBlock=some g->F g)/\∀ b∈E,∀ g,b.ownB=some g->F g
def Hy (base t o:Nat) (room:Int) (E:List (Int × List BB × Int)) (G:List Int):Eb where
 P W F:=∃ d,d.map Zo=E/\Zl W F base t o room d G
 tab:=true
 Ab h hT hF:=by
  obtain⟨d,n,c,e,k,⟨v,m,f,i⟩,l⟩:=h;exact⟨d,n,⟨c.ge,c.gm,⟨v,m.Ab hT (hF _ e),Aj f hT fun g a=>hF _ (i g a)⟩,c.gone.Ab hT (hF _ k),fun j hx=>Aj (c.who j hx) hT fun g a=>hF _ (l j hx g a),c.set,c.nH,c.o9⟩,e,k,⟨v,m.Ab hT (hF _ e),Aj f hT fun g a=>hF _ (i g a),i⟩,l⟩
 core b h:=by
  obtain⟨d,n,c,e,k,⟨v,m,f,i⟩,l⟩:=h;exact⟨d,n,c,⟨e,c.lt.1,.inl rfl⟩,⟨k,c.lt.2,.inl rfl⟩,⟨v,m,f,fun g a=>⟨i g a,Gd f a,.inl rfl⟩⟩,fun j hx g a=>⟨l j hx g a,Gd (c.who j hx) a,.inl rfl⟩⟩
 wider h hG:=by
  obtain⟨d,n,c,e,k,⟨v,m,f,i⟩,l⟩:=h;exact⟨d,n,c,hG _ e,hG _ k,⟨v,m,f,fun g a=>hG _ (i g a)⟩,fun j hx g a=>hG _ (l j hx g a)⟩
def II (d:Nat) (now:List UInt8):Eb where
 P W F:=∃ c f e,Ef W d c f e now/\F d/\F c/\F f/\F e
 tab:=false
 Ab a hT hF:=by
  obtain⟨c,f,e,a,g,h,i,j⟩:=a;exact⟨c,f,e,a.Ab hT (hF _ g) (hF _ h) (hF _ i) (hF _ j),g,h,i,j⟩
 core b a:=by
  obtain⟨c,f,e,a,g,h,i,j⟩:=a;obtain⟨_,k,_⟩:=a.NV;obtain⟨_,l,_⟩:=a.Mm;obtain⟨_,m,_⟩:=a.LC;exact⟨c,f,e,a,⟨g,a.lt.1,.inr (FJ a.BR).2⟩,⟨h,k.lt,.inr (FJ k).2⟩,⟨i,l.lt,.inr (FJ l).2⟩,⟨j,m.lt,.inr (FJ m).2⟩⟩
 wider a hG:=by
  obtain⟨c,f,e,a,g,h,i,j⟩:=a;exact⟨c,f,e,a,hG _ g,hG _ h,hG _ i,hG _ j⟩
def FZ (d p num half:Nat):Eb where
 P W F:=∃ c f e h i,Ef W d c f e h/\AX W p 183 (Ij d num half i)/\F d/\F c/\F f/\F e/\F p
 tab:=false
 Ab a hT hF:=by
  obtain⟨c,f,e,h,i,a,g,j,k,l,m,n⟩:=a;exact⟨c,f,e,h,i,a.Ab hT (hF _ j) (hF _ k) (hF _ l) (hF _ m),g.Ab hT (hF _ n),j,k,l,m,n⟩
 core b a:=by
  obtain⟨c,f,e,h,i,a,g,j,k,l,m,n⟩:=a;obtain⟨_,o,_⟩:=a.NV;obtain⟨_,q,_⟩:=a.Mm;obtain⟨_,r,_⟩:=a.LC;exact⟨c,f,e,h,i,a,g,⟨j,a.lt.1,.inr (FJ a.BR).2⟩,⟨k,o.lt,.inr (FJ o).2⟩,⟨l,q.lt,.inr (FJ q).2⟩,⟨m,r.lt,.inr (FJ r).2⟩,n,g.lt,.inr (FJ g).2⟩
 wider a hG:=by
  obtain⟨c,f,e,h,i,a,g,j,k,l,m,n⟩:=a;exact⟨c,f,e,h,i,a,g,hG _ j,hG _ k,hG _ l,hG _ m,hG _ n⟩
def J4 {α : Type} (V:α->Value) (W:Bc) (F:Nat->Prop) (e size:Nat) (v:Value) (L:List α):Prop:=W.ownsRow 0 e size v L.length (BN V L)/\∀ g,v.ownBlock=some g->F g
section
variable {α : Type} {V:α->Value} {W W':Bc} {F G S:Nat->Prop} {e size:Nat} {v:Value} {L:List α}
theorem J4.Ab (a:J4 V W F e size v L) (b:Am S W W') (hF:∀ k,F k->¬S k):J4 V W' F e size v L:=⟨Aj a.1 b fun g c=>hF _ (a.2 g c),a.2⟩
theorem J4.core (a:J4 V W F e size v L) (b:Nat) (d:e≠168:=by decide) (f:e≠226:=by decide):J4 V W (fun k=>F k/\k<W.heap.size/\(false=true∨¬G5 b W k)) e size v L:=⟨a.1,fun g c=>⟨a.2 g c,(LB (b:=b) a.1 c d f).1,.inr (LB a.1 c d f).2⟩⟩
theorem J4.wider (a:J4 V W F e size v L) (b:∀ k,F k->G k):J4 V W G e size v L:=⟨a.1,fun g c=>b _ (a.2 g c)⟩
end
def Jm (W:Bc) (F:Nat->Prop) (v:Value):Option DZ->Prop
 |none=>∃ A c,v= .slice A 0 c
 |some x=>∃ g a c g2 d b e f h,v=zS g a 1 c/\Er W g a g2 d b e f h x/\F g/\F g2/\F b
theorem Er.far {w w':Bc} {S:Nat->Prop} {g h g2 i c j k l:Nat} {x:DZ} (a:Er w g h g2 i c j k l x) (d:Am S w w') (m:¬S g) (n:¬S g2) (o:¬S c):Er w' g h g2 i c j k l x:=by
 have e:=a.lt;have f:∀ b,w'.cell? (zA g b)=w.cell? (zA g b):=fun b=>d.cell (p:=zA g b) e.1 m
 have q:∀ b,w'.cell? (zA g2 b)=w.cell? (zA g2 b):=fun b=>d.cell (p:=zA g2 b) e.2.1 n
 have r:∀ b,w'.cell? (zA c b)=w.cell? (zA c b):=fun b=>d.cell (p:=zA c b) e.2.2 o
 exact⟨a.b1.imp fun _ a=>a.Ab d m,a.b2.imp fun _ a=>a.Ab d n,a.b3.imp fun _ a=>a.Ab d o,(f _).trans a.k0,(f _).trans a.k1,(f _).trans a.k2,(q _).trans a.e0,(q _).trans a.e1,(r _).trans a.s0⟩
section
variable {W W':Bc} {F G S:Nat->Prop} {v:Value} {ob:Option DZ}
theorem Jm.Ab (a:Jm W F v ob) (p:Am S W W') (hF:∀ k,F k->¬S k):Jm W' F v ob:=by
 cases ob with
 |none=>exact a
 |some r =>
  obtain⟨g,f,j,n,h,o,i,l,m,e,q,b,c,d⟩:=a;exact⟨g,f,j,n,h,o,i,l,m,e,q.far p (hF _ b) (hF _ c) (hF _ d),b,c,d⟩
theorem Jm.core (h:Jm W F v ob) (b:Nat):Jm W (fun k=>F k/\k<W.heap.size/\(false=true∨¬G5 b W k)) v ob:=by
 cases ob with
 |none=>exact h
 |some u =>
  obtain⟨g,i,m,p,j,q,l,n,o,e,a,r,s,t⟩:=h;obtain⟨_,c⟩:=a.b1;obtain⟨_,d⟩:=a.b2;obtain⟨_,f⟩:=a.b3;exact⟨g,i,m,p,j,q,l,n,o,e,a,⟨r,c.lt,.inr (FJ c).2⟩,⟨s,d.lt,.inr (FJ d).2⟩,⟨t,f.lt,.inr (FJ f).2⟩⟩
theorem Jm.wider (b:Jm W F v ob) (a:∀ k,F k->G k):Jm W G v ob:=by
 cases ob with
 |none=>exact b
 |some r =>
  obtain⟨g,c,h,l,d,m,f,i,j,e,q,n,o,p⟩:=b;exact⟨g,c,h,l,d,m,f,i,j,e,q,a _ n,a _ o,a _ p⟩
theorem Jm.at_ (a:Jm W F v ob):Ll W v ob:=by
 cases ob with
 |none=>exact a
 |some m =>
  obtain⟨g,b,f,j,c,k,d,h,i,e,l,_⟩:=a;exact⟨g,b,f,j,c,k,d,h,i,e,l⟩
end
structure Fb where
 nb:Nat
 st:Nat
 tb:Nat
 ca:Nat
 num:Int
 Kh:Int
 key:Int
 jp:Nat
 kb:Nat
 boot:Int
 ob:Option DZ
 L:List (Int × Int × Int)
 C:List (Int × Int × Int × Int)
 R:List (Int × Int × Int × Int)
def kV (d:Fb) (b vl a c:Value):Array Value:=#[zP d.st,zP d.tb,zP d.ca,zI d.num,zI d.Kh,zU d.key,.bool false,zP d.jp,zP d.kb,zI d.boot,b,vl,a,c]
def WR (x:Int × Int × Int × Int):Value:=.agg #[zI 2,zU x.1,zI x.2.1,zO,zI x.2.2.1,zI x.2.2.2,zO,zN,zO,zO,zE,zN]
def QD (x:Int × Int × Int × Int):Value:=.agg #[zU x.1,zI x.2.1,zI x.2.2.1,zI x.2.2.2]
structure kL (W:Bc) (F:Nat->Prop) (d:Fb) (vo vl vc vr:Value):Prop where
 BR:AX W d.nb 72 (kV d vo vl vc vr)
 f:F d.nb
 ro:Jm W F vo d.ob
 rl:J4 aU W F 200 3 vl d.L
 rc:J4 WR W F 104 12 vc d.C
 rr:J4 QD W F 74 4 vr d.R
def Dv (d:Fb):Eb where
 P W F:=∃ f e c g,kL W F d f e c g
 tab:=false
 Ab a hT hF:=by
  obtain⟨f,e,c,g,a⟩:=a;exact⟨f,e,c,g,a.BR.Ab hT (hF _ a.f),a.f,a.ro.Ab hT hF,a.rl.Ab hT hF,a.rc.Ab hT hF,a.rr.Ab hT hF⟩
 core b a:=by
  obtain⟨f,e,c,g,a⟩:=a;exact⟨f,e,c,g,a.BR,⟨a.f,a.BR.lt,.inr (FJ a.BR).2⟩,a.ro.core b,a.rl.core b,a.rc.core b,a.rr.core b⟩
 wider a hG:=by
  obtain⟨f,e,c,g,a⟩:=a;exact⟨f,e,c,g,a.BR,hG _ a.f,a.ro.wider hG,a.rl.wider hG,a.rc.wider hG,a.rr.wider hG⟩
structure GL where
 wb:Nat
 n0:Option Nat
 d0:Nat
 n1:Option Nat
 d1:Nat
 d2:Nat
 kb:Nat
 L:List (Int × Int × BB)
def Rl (n:Option Nat):Value:=.pointer (n.map fun b=>(zA b 0))
def VR (x:Int × Int × BB):Value:=.agg #[zI x.1,zI x.2.1,.string x.2.2]
def Jz (d:GL) (vl:Value):Array Value:=#[Rl d.n0,zP d.d0,zO,Rl d.n1,zP d.d1,zO,.pointer none,zP d.d2,zO,zP d.kb,vl]
def Dr (d:GL):Eb where
 P W F:=∃ a,AX W d.wb 91 (Jz d a)/\F d.wb/\J4 VR W F 107 3 a d.L
 tab:=false
 Ab h hT hF:=by
  obtain⟨a,c,e,f⟩:=h;exact⟨a,c.Ab hT (hF _ e),e,f.Ab hT hF⟩
 core b h:=by
  obtain⟨a,c,e,f⟩:=h;exact⟨a,c,⟨e,c.lt,.inr (FJ c).2⟩,f.core b⟩
 wider h hG:=by
  obtain⟨a,c,e,f⟩:=h;exact⟨a,c,hG _ e,f.wider hG⟩

section
variable {w w' W:Bc}
theorem aI:(Tryz.prog.info? 107).map (fun i=>(i.zero,i.size,i.bytes))=some (some (.agg #[zO,zO,zE]),3,32):=by kernel_rfl
theorem YX (b base n f:Nat) (d:Option Addr) (xs:List Value) (fr i:Int) (s:BB) (w:Bc) (cs:Array Value) (N:AX w b 91 cs) (D:cs[10]?= some (.slice d n f)) (ao:base<=w.heap.size) (ap:n<=100) (E:w.ownsRow base 107 3 (.slice d n f) n xs) :
  Calls Tryz.prog 36 #[zP b,.agg #[zI fr,zI i,.string s]] w fun e w'=>∃ z C,e= .returned (.tuple #[])/\AX w' b 91 (cs.setIfInBounds 10 (.slice z (n+1) C))/\w'.ownsRow base 107 3 (.slice z (n+1) C) (n+1) (xs++[zI fr,zI i,.string s])/\Am (fun k=>k=b∨(Value.slice d n f).ownBlock=some k) w w'/\∀ g,(Value.slice z (n+1) C).ownBlock=some g->(Value.slice d n f).ownBlock=some g∨w.heap.size<=g:=by
 have m:Hid (AX (w.alloc (.cells #[zI fr,zI i,.string s] 107)) w.heap.size 107 #[zI fr,zI i,.string s]):=Lh (AX.new w _ _);have a:Au w (w.alloc (.cells #[zI fr,zI i,.string s] 107)):=(Aa _ w).alloc _;have l:=Lh (N.Ab a id);have U:=Lh D;have T:=(l.out.cell 10).trans D;have q:=Lh (Aj E a fun _ _ ar=>ar);have o:Hid (Am (fun k=>k=b∨(Value.slice d n f).ownBlock=some k) w _):=Lh (a.mono fun _ _ ar=>ar.elim);have K:Hid ((Value.slice d n f).ownBlock≠some w.heap.size):=Lh fun e=>Bv (Gd E e) (by omega)
 have aq:(n:Int)<200:=by omega
 obtain⟨ah,ac,ae,af,ag⟩:=info_parts aI;clear N D E a;go_in;go_upto_region 1 with(fail)
 obtain⟨am,H⟩:∃ r,r=w.heap.size:=⟨_,rfl⟩
 have an:=Lh H;generalize w.alloc (.cells #[zI fr,zI i,.string s] 107)=al at m q o l T ⊢;rw[<- H] at m K ⊢;clear H;go_upto_region 2 with(fail)
 refine EQ 10 (S:=fun W=>Cl W b 10 (.slice d n f)/\AX W am 107 #[zI fr,zI i,.string s]) (by kernel_rfl) ⟨T,m.out.drew⟩ fun c=>?_
 replace l:=Lh l.out.drew;replace m:=Lh m.out.drew;replace q:=Lh q.out.drew;replace o:=Lh o.out.drew;generalize al.drew=j at l m q o c ⊢;have Y:=Lh c.1;refine zq 0 10 c ?_;refine zq 1 11 c ?_;refine zq 2 12 c ?_;refine zq 3 13 c ?_;refine zq 4 14 c ?_;refine zq 5 15 (hx:=fun W ab=>Ce (.tmp 3) rfl rfl ab.2 Tryz.underlying107 rfl Ht) c ?_;have Z:Hid (b<j.heap.size):=Lh l.out.lt;have X:Hid (base<=j.heap.size):=Lh (by have:=o.out.size;omega);refine zs 6 rfl fun h a=>?_
 go_simp;refine a.out _ _ ⟨(((T0 j).alloc _).cell (p:=zA b 10) Z.out id).trans Y.out,m.out.alloc _⟩ fun c=>?_
 clear a h;refine zs 7 rfl fun h a=>?_
 rw[AQ (by rfl)];refine wp_append_lies _ (.tmp 14) (.tmp 16) 89 rfl base 107 ah _ 3 32 Tryz.underlying89 ac ae af ag rfl (by omega) (.slice d n f) n xs rfl (q.out.alloc _) (zA j.heap.size 0) 1 1 [zI fr,zI i,.string s] rfl rfl (World.news_of_block (cs:=#[zI fr,zI i,.string s]) (t:=107) (fr:=(0,0)) (heap_alloc_new j _)) (by simp[Value.oneCell']) (by omega) (by unfold maxLen;omega) (by omega) (by have:=X.out;simp;omega) (j.heap.size+1) (by simp) ?_;intro x M I L R Q ad;rw[Ga 17 (by rfl)];dsimp only[Act.put,AZ,Bq,Bi];have y:Am (fun k=>(Value.slice d n f).ownBlock=some k) j I:=((Aa _ j).alloc _).grown R fun k ar _=>ar
 have B:=Lh (m.out.Ab y K.out);have u:=Lh (l.out.Ab y (Ba q.out l.out (by decide)));have v:Hid (Cl I b 10 (.slice d n f)):=Lh ((u.out.cell 10).trans U.out);have J:=Lh L;have aa:=Lh y;have V:=Lh (Q.imp id fun e=>AV o.out.size (show j.heap.size<=x by omega));clear L R Q ad y;refine a.out _ _ ⟨v.out,B.out⟩ fun c=>?_
 clear a h;refine zs 8 rfl fun h a=>?_
 go_simp;refine a.out _ _ ⟨v.out,B.out⟩ fun c=>?_
 clear a h;refine zs 9 rfl fun h a=>?_
 go_simp;refine a.out _ _ ⟨v.out,B.out⟩ fun c=>?_
 clear a h;refine zl fun h a=>?_
 have ai:=v.out;have aj:=u.out.frozen 10;go_simp;refine a.out _ _ ?_;clear a h;refine zd ?_;have F:=(Aa (fun k=>k=b) I).setCell (p:=zA b 10) (fun _=>rfl) (zS x 0 (n+1) M);have O:=u.out.Dw 10 (zS x 0 (n+1) M);have P:=Aj J.out F fun g G e=>Ba J.out u.out (by decide) (by rw[G,show g=b from e])
 have A:=Lh (Bf O (Bf P ((o.out.AJ (aa.out.mono (S':=fun k=>k=b∨(Value.slice d n f).ownBlock=some k) fun _ _ e=>.inr e) fun _ _ e=>e).AJ F fun _ _ e=>.inl e)));clear ai aj F O P;go_end0;exact⟨_,_,rfl,A.out.1,A.out.2.1,A.out.2.2,fun g G=>by rw[show g=x from by simpa [Value.ownBlock] using G.symm];exact V.out⟩
end

section
variable {x:Option Nat} {base room:Nat} {cs:List Eb} {o o':Nat->Nat} {w W W':Bc} {d:Fb} {j p t mb:Nat} {S:List Led.Vl} {M:List Led.Made} {T:List Int} {L:List Ca} {rm uses:Int} {Y:List (Iu × Int)} {E:List (Int × List BB × Int)} {G:List Int}
theorem ED.lt (b:ED cs W o) {k:Nat} (hk:o k=j+1):k<W.heap.size:=by
 rcases Co k W.heap.size with a|a
 ·exact a
 ·have:=b.z k a;omega
theorem ED.node (a:ED cs W o) (b:cs[j]?= some (Dv d)):∃ e vl c f,kL W (fun k=>o k=j+1) d e vl c f:=a.p j _ b
theorem ED.book (a:ED cs W o) (b:cs[j]?= some (Eg p S M T)):Led.GK W (fun k=>o k=j+1) p S M T:=a.p j _ b
theorem ED.store (a:ED cs W o) (b:cs[j]?= some (Dz base p rm L)):∃ Z,Z.map (·.c)=L/\FN W (fun k=>o k=j+1) base p rm Z:=a.p j _ b
theorem ED.cache (a:ED cs W o) (b:cs[j]?= some (EP p mb rm uses Y)):Da W p mb rm uses Y/\o p=j+1/\o mb=j+1:=a.p j _ b
theorem ED.table (b:ED cs W o) (c:cs[j]?= some (Hy base t mb rm E G)):∃ a,a.map Zo=E/\Zl W (fun k=>o k=j+1) base t mb rm a G:=b.p j _ c
theorem NI {c:Ca} (a:Cn c):(Dy (Db c)).size<=maxLen:=by
 have:=JE a;rw[E5];unfold maxLen;omega
theorem Ls {jb jn js j s:Nat} (a:ED cs w o) (v:cs[jb]?= some (Eg j S M T)) (A:cs[jn]?= some (Dv d)) (D:cs[js]?= some (Dz base s rm L)) (z:d.kb=j) (G:d.st=s) (H:jn≠js) (c:Ca) (b:Addr) (k:Nat) (h:Cn c) (B:Ay Value.string w w.heap.size 1 (some b) c.Bl) (ha:o b.block≠js+1) (E:Led.hasB (c.Aq,Dy (Db c)) S=true) (y:base<=w.heap.size) (t:(L.length:Int)<rm) (C:rm<=200) :
  Calls Tryz.prog 94 #[zP d.nb,.agg (Cu c (some b) k)] w (Rt (.bool true) fun w'=>FE x (cs.set js (Dz base s rm (Jw L c))) o w w'):=by
 subst z G;obtain⟨K,J,I,N,f⟩:=a.node A;obtain⟨i,rfl,p⟩:=a.store D;have m:=a.book v;refine(Tf (F:=fun k=>o k=js+1) (base:=base) (s:=d.st) (room:=rm) (Z:=i) c b k d.nb d.kb true w (f.BR.cell 8) (f.BR.cell 0) f.BR.lt p (fun e=>by have:=f.f;omega) (fun k g=>a.lt g) h B ha y (by simpa using t) C fun W n=>(Led.mV _ _ S M T c.Aq _ W h.su (NI h) (m.AB n)).mono (by rintro e w' ⟨rfl,g⟩;exact⟨by rw[E],g⟩)).mono ?_;rintro e w' ⟨rfl,l,q,u,r⟩;exact⟨rfl,a.upd js _ r ⟨l,by rw[u,AQ rfl],q.mono fun k e=>e⟩⟩
structure Ik (S S':List Led.Vl) (x:Led.Vl):Prop where
 len:S'.length<=S.length+1
 has:x∈S'
 sub:∀ y∈S,y∈S'
theorem UG {k:Int} {s:BB} (hk:k/8192=1) (c:S.length<2000):Ik S (Led.Qw S k s).2 (k,s):=by
 unfold Led.Qw;rw[AQ hk];by_cases b:Led.hasB (k,s) S=true
 ·rw[AQ b];exact⟨by simp,Led.aA.1 b,fun _ a=>a⟩
 ·rw[Bg b,AQ c];exact⟨by simp,by simp,fun _ a=>by simp[a]⟩
theorem Rm {jb jn i:Nat} (b:ED cs w o) (q:cs[jb]?= some (Eg i S M T)) (u:cs[jn]?= some (Dv d)) (s:d.kb=i) (z:jn≠jb) (c:Ca) (g:Addr) (k:Nat) (f:Cn c) (v:Ay Value.string w w.heap.size 1 (some g) c.Bl) (t:S.length<2000) :
  Calls Tryz.prog 93 #[zP d.nb,.agg (Cu c (some g) k)] w (Rt (.tuple #[]) fun w'=>∃ S',Ik S S' (c.Aq,Dy (Db c))/\FE x (cs.set jb (Eg i S' M T)) o w w'):=by
 subst s;obtain⟨C,B,A,D,h⟩:=b.node u;have m:=b.book q;refine(Yc (fun k=>o k=jb+1) (fun W w'=>Led.GK w' (Led.Grow (fun k=>o k=jb+1) W w') d.kb (Led.Qw S c.Aq (Dy (Db c))).2 M T) c g k d.nb d.kb w (h.BR.cell 8) h.BR.lt (fun k r=>⟨b.lt r,fun a=>by have:=h.f;subst a;omega⟩) f v fun W e=>(Led.pJ _ _ S M T c.Aq _ W f.su (NI f) (by omega) (m.AB e)).mono (by rintro a w' ⟨rfl,j,l⟩;exact⟨⟨_,rfl⟩,j,l⟩)).mono ?_;rintro a w' ⟨rfl,y,e,n,p⟩;refine⟨rfl,_,UG f.sk t,b.upd jb _ (Am.back e p) (n.wider fun k a=>?_)⟩;exact a.imp id fun a=>⟨AV e.size a.1,a.2⟩
end

section
variable {x:Option Nat} {b base rm:Nat} {cs:List Eb} {o o':Nat->Nat} {w W W':Bc} {j t mb:Nat} {room:Int} {E E2:List EH} {G G2:List Int} {F:Nat->Prop}
theorem Zl.next (j:Zl w F base t mb room E G) (d:EO W base t mb room E2 G2) (o:Am (Io base mb w) w W) (r:∀ y∈E2,∀ g,y.ownB=some g->(∃ x∈E,x.ownB=some g)∨w.heap.size<=g):Zl W (fun k=>F k∨G5 base w k∨(w.heap.size<=k/\k<W.heap.size)) base t mb room E2 G2:=by
 obtain⟨_,l,f,_,m⟩:=j;obtain⟨s,n,h⟩:=d.row;refine⟨d,.inl l,.inl f,⟨s,n,h,fun g c=>?_⟩,fun y i g c=>?_⟩
 ·obtain⟨q,cs,e⟩:=Ic h c;rcases Co g w.heap.size with a|a
  ·by_cases b:Io base mb w g
   ·rcases b with rfl|b
    ·exact .inl f
    ·exact .inr (.inl b)
   ·refine .inr (.inl ⟨q,_,cs,?_,.inr rfl⟩);unfold AX at e ⊢;rw[<- o.block g a b];exact e
  ·exact .inr (.inr ⟨a,e.lt⟩)
 ·rcases r y i g c with⟨x,hx,p⟩|a
  ·exact .inl (m x hx g p)
  ·exact .inr (.inr ⟨a,Gd (d.who y i) c⟩)
theorem YK (f:ED cs w o) (ht:cs[j]?= some (Hy base t mb room [] [])) (B:∀ i c,cs[i]?= some c->i≠j->c.tab=false) (H:1<=room) (c:Int) (a:List BB) (u:Ey c) (O:c/8192=2) (K:D9 a=true) (A:Option Addr) (e:Nat) (C:a.length<=1000) (J:∀ s∈a,s.size<=1000000) (G:Ay Value.string w w.heap.size 1 A a) (I:∀ b o',A=some (zA b o')->o b≠j+1/\¬G5 base w b) :
  Calls Tryz.prog 144 #[zP t,zU c,.slice A a.length e] w (Rt (.tuple #[zU 0,zO]) fun w'=>FE (some base) (cs.set j (Hy base t mb room [(c,a,-1)] [])) o w w'):=by
 obtain⟨E,r,hF⟩:=f.table ht;have v:E=[]:=by cases E with
  |nil=>rfl
  |cons=>simp at r
 subst v;refine(We hF.1 (by simp) u H (by simp) A e C J G fun b o' _ q _=>?_).mono ?_
 ·obtain⟨d,n⟩:=I b o' q;rintro(rfl|p)
  ·exact d hF.2.2.1
  ·exact n p
 ·intro N w' F;have m:GD c a [] []=0:=by
   unfold GD;rw[Bg (by omega),Bg (by rw[K];decide)];rfl
  have D:outT room ([]:List EH)=0:=by unfold outT;rw[Bg (by simp;omega)]
  have hcut:RU room ([]:List EH)=[]:=by unfold RU;rw[Bg (by simp;omega)]
  have z:Nb room ([]:List EH) []=[]:=by unfold Nb;rw[Bg (by simp;omega)]
  rcases F with⟨d,_⟩|⟨_,M,rfl,rfl,L,x,rfl,g,h⟩
  ·exact Bv m d
  ·rw[hcut,z] at g;rw[D];refine⟨rfl,f.pQ j mb _ B hF.2.2.1 h ⟨[M],by simp[Zo,L],?_⟩⟩;exact hF.next g h fun P k l y=>by simp at k;subst k;exact .inr (x l y)
theorem eO (e:ED cs w o) {c l:Int} {d:List BB} (ht:cs[j]?= some (Hy base t mb room [(c,d,l)] [])) (r:∀ i c,cs[i]?= some c->i≠j->c.tab=false) (p:Ey c) (seq:Int) (x:0<=seq) (y:l<seq) :
  Calls Tryz.prog 190 #[zP t,zU c,zI seq] w (Rt zO fun w'=>FE (some base) (cs.set j (Hy base t mb room [(c,d,seq)] [])) o w w'):=by
 obtain⟨E,g,hF⟩:=e.table ht;obtain⟨a,rfl⟩:∃ a,E=[a]:=by
  match E,g with
  |[a],_=>exact⟨a,rfl⟩
 have s:Zo a=(c,d,l):=by simpa using g
 obtain⟨rfl,b⟩:=Prod.mk.inj s;obtain⟨rfl,rfl⟩:=Prod.mk.inj b;refine(YN hF.1 (by simp) p seq).mono ?_;rintro u w' ⟨rfl,f,h⟩;have k:KE a.ch [a] []=some a:=by unfold KE JN;rw[Bg (by simp[J6])];simp
 have n:Kb a.ch seq [a] []=0:=by unfold Kb;rw[k];show(if seq<0 then 5 else if seq<=a.last then 14 else 0)=(0:Int);rw[Bg (by omega),Bg (by omega)]
 have b:ML a.ch seq [a] []=[a.to seq]:=by unfold ML;rw[k];show(if seq<0 then[a] else if seq<=a.last then[a] else Hf a.ch [a]++[a.to seq])=_;rw[Bg (by omega),Bg (by omega),Pz];rfl
 rw[b] at f;rw[n];refine⟨rfl,e.pQ j mb _ r hF.2.2.1 h ⟨[a.to seq],rfl,?_⟩⟩;exact hF.next f h fun z m v q=>by simp at m;subst m;exact .inl ⟨a,by simp,q⟩
theorem eP (d:ED cs w o) {c l:Int} {b:List BB} (ht:cs[j]?= some (Hy base t mb room [(c,b,l)] [])) (n:Ey c) :
  Calls Tryz.prog 215 #[zP t,zU c] w fun e w'=>∃ f g,e= .returned (.tuple #[.slice f b.length g,zO])/\w'.ownsRow w.heap.size 27 1 (.slice f b.length g) b.length (b.map Value.string)/\Au w w':=by
 obtain⟨E,h,hF⟩:=d.table ht;obtain⟨a,rfl⟩:∃ a,E=[a]:=by
  match E,h with
  |[a],_=>exact⟨a,rfl⟩
 have q:Zo a=(c,b,l):=by simpa using h
 obtain⟨rfl,m⟩:=Prod.mk.inj q;obtain⟨rfl,rfl⟩:=Prod.mk.inj m;have i:KE a.ch [a] []=some a:=by unfold KE JN;rw[Bg (by simp[J6])];simp
 have p:OM a.ch [a] []=a.who:=by unfold OM;rw[i]
 have k:=(NY i).2.1;refine(YR hF.1 (by simp) n).mono ?_;rw[p,k];exact fun _ _ d=>d
end

section
variable {x:Option Nat} {base rm rt ch i bt sq:Int} {cs:List Eb} {o o':Nat->Nat} {w W W':Bc} {d:Fb} {j p t mb:Nat} {S:List Led.Vl} {M:List Led.Made} {T:List Int} {L:List Ca}
theorem FX {c a:Eb} {i j:Nat} (b:cs[j]?= some c) (d:i≠j):(cs.set i a)[j]?= some c:=by rw[List.getElem?_set_ne d];exact b
theorem MH {c a:Eb} {i:Nat} (b:cs[i]?= some c):(cs.set i a)[i]?= some a:=by
 have d:i<cs.length:=(AC.1 b).1;rw[List.getElem?_set_self d]
theorem jU {b:Eb} {i k:Nat} (e:b.tab=false) (f:∀ j c,cs[j]?= some c->j≠i->c.tab=false):∀ j c,(cs.set k b)[j]?= some c->j≠i->c.tab=false:=fun j c a g=>by
 rw[Eh] at a;by_cases d:k=j
 ·rw[AQ d] at a;split at a
  ·cases a;exact e
  ·cases a
 ·rw[Bg d] at a;exact f j c a g
structure Vg (ch i bt sq:Int):Prop where
 i0:0<=i
 i2:i<=2
 b1:1<=bt
 pV:bt<=40
 s0:0<=sq
 qA:sq<=39
 eq:ch=16385+50*(41*i+bt)+sq
theorem Vg.u (a:Vg ch i bt sq):Ey ch:=by
 have:=a.eq;have:=a.i0;have:=a.i2;have:=a.b1;have:=a.pV;have:=a.s0;have:=a.qA;exact⟨by omega,by omega⟩
theorem Vg.two (a:Vg ch i bt sq):ch/8192=2:=by
 have:=a.eq;have:=a.i0;have:=a.i2;have:=a.b1;have:=a.pV;have:=a.s0;have:=a.qA;omega
theorem Yh (g:ED cs w o) (p:cs[j]?= some (Dv d)) (c:Ca) (e:Addr) (k:Nat) (a:Vg ch i bt sq) (m:c.kind=3->c.Ad=C8 [ch]/\c.Aq=8292+50*i+bt/\c.AO=3*d.boot+d.num) (q:0<=d.boot) (r:d.boot<=1000) (s:0<=d.num) (t:d.num<=2) :
  Calls Tryz.prog 142 #[zP d.nb,.agg (Cu c (some e) k),zU ch] w (Rt (.bool (decide (c.kind=3))) (Au w)):=by
 obtain⟨x,v,u,y,f⟩:=g.node p;by_cases b:c.kind=3
 ·obtain⟨h,l,n⟩:=m b;rw[BH b];exact Yi c e k d.nb i bt sq ch d.boot d.num w a.i0 a.i2 a.b1 a.pV a.s0 a.qA a.eq b h l n (f.BR.cell 9) (f.BR.cell 3) f.BR.lt q r s t a.u
 ·rw[BC b];exact bX c e k d.nb i bt sq ch w a.i0 a.i2 a.b1 a.pV a.s0 a.qA a.eq b
structure fI (w:Bc) (o:Nat->Nat) (S:List Led.Vl) (A:Option Addr) (Z:List Ed):Prop where
 at_:Dt w A Z
 fa:∀ a,A=some a->o a.block=0
 fz:∀ z∈Z,∃ a,z.A=some a/\o a.block=0/\a.block<w.heap.size
 ok:∀ z∈Z,Cn z.c
 sg:∀ z∈Z,Led.hasB (z.c.Aq,Dy (Db z.c)) S=true
theorem Zq {M:List Ca}:∀ {L:List Ca},(Lm L M).length<=L.length+M.length:=by
 induction M with
 |nil=>intro L;exact AY _
 |cons a M c =>
  intro L;have b:(Lm L (a::M))=Lm (Jw L a) M:=rfl;have d:(Jw L a).length<=L.length+1:=by unfold Jw;split<;>simp
  have:=c (L:=Jw L a);rw[b,BF];omega
theorem iP {a:Int} (b:Ey a) (c:a≠0):CX (C8 [a])=true:=by
 rw[GR,Eo,Pp (by intro x hx;rw[Ai.1 hx];exact b),FD];exact⟨by simp,by simp,by simp,by unfold EX;simpa using c⟩
theorem bE (a:Vg ch i bt sq):CX (C8 [ch])=true:=iP a.u (by have:=a.two;omega)
theorem Wh {b jb jn js jt cp s t:Nat} (r v y B C fr E F G u:Value) (A:Option Addr) (k:Nat) (Z:List Ed) (m:ED cs w o) (cc:cs[jb]?= some (Eg cp S M T)) (U:cs[jn]?= some (Dv d)) (n:cs[js]?= some (Dz b s rm L)) (ht:cs[jt]?= some (Hy b t mb rt [] [])) (an:∀ j c,cs[j]?= some c->j≠jt->c.tab=false)
  (ed:d.kb=cp) (eh:d.st=s) (ei:d.tb=t) (aa:jn≠js) (em:jb≠js) (en:jt≠js) (eo:jn≠jt) (am:Vg ch i bt sq) (ca:fI w o S A Z) (bv:∀ z∈Z,z.c.kind=3->z.c.Ad=C8 [ch]/\z.c.Aq=8292+50*i+bt/\z.c.AO=3*d.boot+d.num) (cb:Z.any (fun z=>decide (z.c.kind=3))=true)
  (cr:0<=d.boot) (ct:d.boot<=1000) (cu:0<=d.num) (cv:d.num<=2) (ce:b<=w.heap.size) (ee:(L.length:Int)+(Z.length:Int)<rm) (ef:rm<=200) (eg:1<=rt) :
  Calls Tryz.prog 107 #[zP d.nb,.agg #[r,zU ch,v,y,B,C,fr,E,F,G,u,.slice A Z.length k]] w (Rt (.tuple #[]) fun w'=>FE (some b) ((cs.set js (Dz b s rm (Lm L (Z.map (·.c))))).set jt (Hy b t mb rt [(ch,[C8 [ch]],-1)] [])) o w w'):=by
 subst ed eh ei;obtain⟨a,az⟩:∃ a,a=Z.length:=⟨_,rfl⟩
 have ar:=Lh az;rw[<- az] at ee ⊢;have H:=(T0 w).alloc (.cells #[r,zU ch,v,y,B,C,fr,E,F,G,u,.slice A a k] 104);have bi:Hid (ED (cs.set js (Dz b d.st rm (Lm L ((Z.take 0).map (·.c))))) (w.alloc (.cells #[r,zU ch,v,y,B,C,fr,E,F,G,u,.slice A a k] 104)) o):=Lh (by
  have h:cs.set js (Dz b d.st rm (Lm L ((Z.take 0).map (·.c))))=cs:=by
   obtain⟨ff,ec⟩:=AC.1 n;show cs.set js (Dz b d.st rm L)=cs;rw[<- ec,List.set_getElem_self]
  rw[h];exact m.AB H)
 have bn:Hid (Ew none o o w (w.alloc (.cells #[r,zU ch,v,y,B,C,fr,E,F,G,u,.slice A a k] 104))):=Lh (Ew.refl.AB H);have ah:Hid (Loc o (w.alloc (.cells #[r,zU ch,v,y,B,C,fr,E,F,G,u,.slice A a k] 104)) w.heap.size 104 #[r,zU ch,v,y,B,C,fr,E,F,G,u,.slice A a k]):=Lh (Loc.new m _ (by decide) (by decide));have dd:=Lh cc;have ae:=Lh U;have dn:=Lh n;have dr:=Lh ht;have dk:=Lh an;have R:=Lh ca;have db:=Lh bv;have dc:=Lh cb;have ad:=Lh am;have de:=Lh ce;have af:=Lh (Bf cr (Bf ct (Bf cu cv)));have cz:Hid (∀ (W:Bc) (f k:Nat),AX W f 25 #[zU ch]->Calls Tryz.prog 91 #[zS f 0 1 k] W (Rt (.string (C8 [ch])) (Au W))):=Lh fun W f k au=>KW [ch] rfl rfl (by simp) (fun x hx=>by rw[Ai.1 hx];exact am.u) W au
 have da:Hid (∀ (W:Bc) (f k:Nat),AX W f 27 #[.string (C8 [ch])]->Calls Tryz.prog 143 #[zS f 0 1 k] W (Zi W [C8 [ch]])):=Lh fun W f k au=>R5 (zA f 0) k [C8 [ch]] W (.inl ⟨_,rfl⟩) (by intro s n;rw[Ai.1 n];exact bE am) (by intro s n;rw[Ai.1 n,FD];simp) (Gf (V:=Value.string) (fun _=>rfl) au [C8 [ch]] rfl)
 clear m cc U n ht an ca bv cb am ce az H cr ct cu cv;go_in;go_upto_region 1 with(fail)
 obtain⟨Q,cn⟩:∃ Q,Q=w.heap.size:=⟨_,rfl⟩
 generalize w.alloc (.cells #[r,zU ch,v,y,B,C,fr,E,F,G,u,.slice A a k] 104)=ex at ah bn bi ⊢;rw[<- cn] at ah ⊢;clear cn;have ez:Cl ex Q 11 (.slice A a k):=ah.out.BR.cell 11;go_wp2_with fail;clear ez;have fg:(a:Int)<=200:=by omega
 go_loopg [4,12] a fun gk el i wr=>∃ (j:Nat) (o':Nat->Nat),j+gk=a/\i=zI j/\el= .bool ((Z.take j).any fun z=>decide (z.c.kind=3))/\Hid (ED (cs.set js (Dz b d.st rm (Lm L ((Z.take j).map (·.c))))) wr o')/\Hid (Ew none o o' w wr)/\Hid (Loc o' wr Q 104 #[r,zU ch,v,y,B,C,fr,E,F,G,u,.slice A a k])
 case atStart=>exact⟨0,o,by omega,rfl,rfl,bi,bn,ah⟩
 case round =>
  obtain⟨j,o',fd,rfl,rfl,Y,ak,ax⟩:=hrel;by_cases fe:j<a
  ·have ao:j<Z.length:=by have:=ar.out;omega
   have ek:(j:Int)<(a:Int):=by omega
   obtain⟨l,q,bw,cd,ay⟩:=R.out.at_.r j ao;obtain⟨z,ap⟩:∃ z,z=Z[j]:=⟨_,rfl⟩
   have P:z∈Z:=by rw[ap];exact Br ao
   have fa:=Lh P;have bp:Hid (Z.take (j+1)=Z.take j++[z]):=Lh (by rw[AP ao,ap]);obtain⟨e,ba,bb,co⟩:=R.out.fz z P;rw[<- ap] at ay;have I:=fun i an=>(ak.out.t.cell (p:=zA l (q+j*7+i)) cd fun U=>U ⟨R.out.fa (zA l q) bw,fun _ m=>by cases m⟩).trans (ay i an)
   have dt:Cl wr l (q+j*7) (zI z.c.kind):=I 0 (by omega);have du:Cl wr l (q+j*7+1) (zU z.c.Aq):=I 1 (by omega);have dv:Cl wr l (q+j*7+2) (.string z.c.Ad):=I 2 (by omega);have dw:Cl wr l (q+j*7+3) (.slice (some e) z.c.Bl.length z.k):=by rw[<- ba];exact I 3 (by omega)
   have dx:Cl wr l (q+j*7+4) (zI z.c.BX):=I 4 (by omega);have dy:Cl wr l (q+j*7+5) (zI z.c.till):=I 5 (by omega);have dz:Cl wr l (q+j*7+6) (zI z.c.AO):=I 6 (by omega);subst bw;have H:=(T0 wr).alloc (.cells #[zI z.c.kind,zU z.c.Aq,.string z.c.Ad,.slice (some e) z.c.Bl.length z.k,zI z.c.BX,zI z.c.till,zI z.c.AO] 31);have bq:=Lh (ax.out.AB H);have ag:=Lh (ak.out.AB H);have bj:=Lh (Y.out.AB H);have ac:Hid (Loc o' (wr.alloc (.cells #[zI z.c.kind,zU z.c.Aq,.string z.c.Ad,.slice (some e) z.c.Bl.length z.k,zI z.c.BX,zI z.c.till,zI z.c.AO] 31)) wr.heap.size 31 #[zI z.c.kind,zU z.c.Aq,.string z.c.Ad,.slice (some e) z.c.Bl.length z.k,zI z.c.BX,zI z.c.till,zI z.c.AO]):=Lh (Loc.new Y.out _ (by decide) (by decide));have cl:((Lm L ((Z.take j).map (·.c))).length:Int)<rm:=by
    have ai:=Zq (L:=L) (M:=(Z.take j).map (·.c));rw[Be,BA] at ai;omega
   have X:Ay Value.string (wr.alloc (.cells #[zI z.c.kind,zU z.c.Aq,.string z.c.Ad,.slice (some e) z.c.Bl.length z.k,zI z.c.BX,zI z.c.till,zI z.c.AO] 31)) (wr.alloc (.cells #[zI z.c.kind,zU z.c.Aq,.string z.c.Ad,.slice (some e) z.c.Bl.length z.k,zI z.c.BX,zI z.c.till,zI z.c.AO] 31)).heap.size 1 (some e) z.c.Bl:=by
    have ai:=R.out.at_.s z P;rw[ba] at ai;exact JJ ai ag.out.t fun U=>U ⟨bb,fun _ m=>by cases m⟩
   have ej:o' e.block=0:=ak.out.z _ co ⟨bb,fun _ m=>by cases m⟩;have ab:=Lh (Ls (x:=none) (base:=b) bj.out (FX dd.out (BZ em)) (FX ae.out (BZ aa)) (MH dn.out) rfl rfl aa z.c e z.k (R.out.ok z P) X (by omega) (R.out.sg z P) (AV de.out ag.out.t.size) cl ef);rw[List.set_set] at ab;have aq:=Lh fun(W:Bc) (ep:Nat->Nat) (D:Eb) (eb:ED (cs.set js D) W ep)=>Yh eb (FX ae.out (BZ aa)) z.c e z.k ad.out (db.out z P) af.out.1 af.out.2.1 af.out.2.2.1 af.out.2.2.2
   have cf:Cu z.c (some e) z.k=#[zI z.c.kind,zU z.c.Aq,.string z.c.Ad,.slice (some e) z.c.Bl.length z.k,zI z.c.BX,zI z.c.till,zI z.c.AO]:=rfl;rw[cf] at ab aq;clear ap ay I cd ao H cf cl X ej ba bb co P;go_upto_region 5 with(fail)
   clear dt du dv dw dx dy dz;generalize wr.alloc (.cells #[zI z.c.kind,zU z.c.Aq,.string z.c.Ad,.slice (some e) z.c.Bl.length z.k,zI z.c.BX,zI z.c.till,zI z.c.AO] 31)=fj at bq ag bj ac ab ⊢;generalize wr.heap.size=fc at ac ⊢;generalize cm:decide (z.c.kind=3)=es at aq;have dl:=Lh cm;clear cm;rcases es with _|_
   all_goals
    go_wp2_with (first
     |(refine AA rfl (.tmp 6) rfl rfl ac.out.BR Tryz.underlying31 rfl Cg ?_)
     |(go_at_call 94;refine ab.out.mono ?_;rintro h bc ⟨rfl,eq,bz,al⟩;have bk:=Lh bz;have dp:=Lh (ag.out.trans al);have br:=Lh (bq.out.stay al);have N:=Lh (ac.out.stay al);have fk:=N.out.BR.cell 0;have fl:=N.out.BR.cell 1;have fm:=N.out.BR.cell 2;have fn:=N.out.BR.cell 3;have fo:=N.out.BR.cell 4;have fp:=N.out.BR.cell 5;have fq:=N.out.BR.cell 6;have cx:=br.out.BR.cell 1;clear bz al)
     |(go_at_call 142;refine(aq.out _ _ _ bk.out).mono ?_;rintro h fs ⟨rfl,J⟩;have O:=Lh J;clear J))
    go_roundg (gk-1)
    case measure=>omega
    case rel =>
     refine⟨j+1,eq,by omega,by go_num,?_,?_,Lh (dp.out.AB O.out),Lh (br.out.AB O.out)⟩
     ·rw[bp.out,List.any_append];simp[dl.out]
     ·have h:Lm L ((Z.take (j+1)).map (·.c))=Jw (Lm L ((Z.take j).map (·.c))) z.c:=by rw[bp.out,Bw];unfold Lm;rw[List.foldl_append];rfl
      rw[h];exact Lh (bk.out.AB O.out)
  ·obtain rfl:j=a:=by omega
   have cj:((Z.take j).any fun z=>decide (z.c.kind=3))=true:=by rw[ar.out,Cr];exact dc.out
   have ek:¬(j:Int)<(j:Int):=by omega
   rw[cj];have ck:(Z.take j).map (·.c)=Z.map (·.c):=by rw[ar.out,Cr]
   rw[ck] at Y;clear cj ck;have cx:=ax.out.BR.cell 1;go_upto_region 11 with(first
    |(go_at_call 91;refine(cz.out _ _ _ (AX.new _ _ _)).mono ?_;rintro h bc ⟨rfl,J⟩;have bg:=Lh (Am.to ((T0 wr).alloc _) J);clear J)
    |(go_at_call 143;refine(da.out _ _ _ (AX.new _ _ _)).mono ?_;rintro h fs ⟨f,ea,rfl,X,⟨fi,cg⟩,ci,J⟩;rw[Si] at X;rw[Si];have dm:=Lh X;have di:=Lh cg;have dj:=Lh (AV bg.out.size (AV ((T0 bc).alloc (.cells #[.string (C8 [ch])] 27)).size ci));have O:=Lh (bg.out.to (Am.to ((T0 bc).alloc _) J));clear X cg J ci))
   have bl:=Lh (Y.out.AB O.out);have dq:=Lh (ak.out.AB O.out);have bs:=Lh (ax.out.AB O.out);have dg:Hid (o' f=0):=Lh (Y.out.z f dj.out);obtain⟨ev,eu,et,ew,aj⟩:=bl.out.node (FX ae.out (BZ aa));have cw:Cl fs d.nb 1 (zP d.tb):=aj.BR.cell 1;have cq:Cl fs Q 1 (zU ch):=bs.out.BR.cell 1;clear aj cx;refine GZ (fun W=>Cl W d.nb 1 (zP d.tb)/\Cl W Q 1 (zU ch)) ⟨cw,cq⟩ fun g=>?_
   have bm:=Lh (bl.out.AB (T0 fs).drew);have bo:=Lh (dq.out.AB (T0 fs).drew);have bh:=Lh (dm.out.AB (T0 fs).drew);have bf:=Lh di.out.drew;have bu:=Lh (bs.out.AB (T0 fs).drew);clear cw cq;generalize fs.drew=ey at bm bo bh bf bu g ⊢;refine hq 0 40 g ?_;refine hq 1 41 g ?_;refine hq 2 42 g ?_;refine hq 3 43 g ?_;refine hq 4 44 g ?_;refine hq 5 45 g ?_;refine hq 6 46 g ?_;refine hq 7 47 g ?_;have be:=Lh (YK bm.out (FX dr.out en.symm) (jU rfl dk.out) eg ch [C8 [ch]] ad.out.u ad.out.two (IU (bE ad.out)) (some (zA f 0)) ea (by simp) (by intro s n;rw[Ai.1 n,FD];simp) bh.out fun fb fh h=>by cases h;exact⟨by have:=dg.out;omega,G5.not bf.out (by decide) (by decide)⟩);rw[show([C8 [ch]]:List BB).length=1 from rfl] at be;refine Gg 8 fun K bx=>?_
   go_simp;refine be.out.mono ?_;rintro h bd ⟨rfl,er,av,aw⟩;have df:Hid (Cl bd d.nb 1 (zP d.tb)/\Cl bd Q 1 (zU ch)):=Lh (by obtain⟨ev,eu,et,ew,aj⟩:=av.node (FX (FX ae.out (BZ aa)) (BZ eo));exact⟨aj.BR.cell 1,(bu.out.stay aw).BR.cell 1⟩);have dh:Hid (FE (some b) _ o' ey bd):=Lh ⟨er,av,aw⟩;clear av aw;go_wp2;refine bx.out _ _ (df.out) fun g=>?_
   clear bx K;refine zw ?_;clear g;go_end0;refine⟨rfl,?_⟩;exact FE.trans bo.out.weak dh.out
end

end Go.Proofs.YtcjcndnjpedniaaGreat
