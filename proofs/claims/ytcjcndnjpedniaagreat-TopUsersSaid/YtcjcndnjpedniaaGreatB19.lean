/- A part of the proof of TopUsers. -/
import Derived.Test.YtcjcndnjpedniaaGreatB18
namespace Go.Proofs.YtcjcndnjpedniaaGreat
set_option linter.all false
set_option maxRecDepth 100000
set_option maxHeartbeats 8000000
open Go.RowKit
def EA (r:Dj):Bool:=CX r.BX&&(CX r.Kn&&decide (Cc r.Kn<=Cc r.BX))
def Zb (v:BB) (i:Nat) (r:Dj):BB:=(IY v (i:Int) (Cc r.BX) r.Kn).1
def J5 (R:List Dj) (v u:BB):Prop:=∃ r∈R,EA r=true/\∃ a,FI v r.BX a=true/\u=Zb v a r
def Fv (R:List Dj) (w v:BB):Prop:=∀ a:BB->Prop,a w->(∀ b c,a b->J5 R b c->a c)->a v
section
variable {R R':List Dj} {w v u s:BB} {r:Dj}
theorem Fv.refl:Fv R w w:=fun _ a _=>a
theorem Fv.step (c:Fv R w v) (e:J5 R v u):Fv R w u:=fun b d a=>a v u (c b d a) e
theorem Fv.trans (c:Fv R w v) (k:Fv R v u):Fv R w u:=fun a d b=>k a (c a d b) b
theorem J5.mono (a:J5 R v u) (b:∀ r∈R,r∈R'):J5 R' v u:=by
 obtain⟨r,c,a⟩:=a;exact⟨r,b r c,a⟩
theorem Fv.mono (a:Fv R w v) (b:∀ r∈R,r∈R'):Fv R' w v:=a _ Fv.refl fun _ _ ha c=>ha.step (c.mono b)
theorem GR:CX s=true↔s.size%2=0/\1<=Cc s/\Cc s<=8/\EX (AU s)=true:=by
 unfold CX I5;simp only[De,Gu,Bb,Ag];constructor
 ·rintro⟨d,a,b,c⟩;exact⟨by omega,a,b,c⟩
 ·rintro⟨d,a,b,c⟩;exact⟨by omega,a,b,c⟩
theorem Eo:Cc s=((AU s).length:Int):=by
 rw[BG];unfold Cc;omega
theorem Mj {a b:List Int}:EX (a++b)=(EX a&&EX b):=by unfold EX;rw[List.all_append]
theorem Ul {a:List Int} {n:Nat} (b:EX a=true):EX (a.take n)=true:=by
 unfold EX at *;rw[FY] at *;exact fun c hx=>b c (FP hx)
theorem Uk {a:List Int} {n:Nat} (b:EX a=true):EX (a.drop n)=true:=by
 unfold EX at *;rw[FY] at *;exact fun c hx=>b c (List.mem_of_mem_drop hx)
theorem Qx {i:Nat} (m:CX v=true) (a:EA r=true) (l:FI v r.BX i=true):(IY v (i:Int) (Cc r.BX) r.Kn).2=0/\CX (Zb v i r)=true/\AU (Zb v i r)=(AU v).take i++(AU r.Kn++(AU v).drop (i+(AU r.BX).length)):=by
 unfold EA at a;simp only[De,Bb] at a;obtain⟨k,ht,C⟩:=a;obtain⟨K,L,M,h⟩:=GR.1 m;obtain⟨x,y,z,A⟩:=GR.1 k;obtain⟨H,I,J,s⟩:=GR.1 ht;have B:=Md l;have G:=BG v;have E:=BG r.BX;have F:=BG r.Kn;have w:Cc v=(AU v).length:=Eo;have t:Cc r.BX=(AU r.BX).length:=Eo;have u:Cc r.Kn=(AU r.Kn).length:=Eo;have p:I5 v=false:=by unfold I5;rw[Ag];omega
 have q:I5 r.Kn=false:=by unfold I5;rw[Ag];omega
 have n:Jl v (i:Int) (Cc r.BX)=true:=by unfold Jl;rw[Bb];omega
 have j:¬8<Cc v-Cc r.BX+Cc r.Kn:=by omega
 have f:IY v (i:Int) (Cc r.BX) r.Kn=(v.extract 0 (2*i)++r.Kn++v.extract (2*(i+(AU r.BX).length)) v.size,0):=by
  unfold IY;rw[p,q,n];simp only[Bool.or_self,CJ,if_false,if_true,Bg j];rw[show(2*(i:Int)).toNat=2*i by omega,show(2*((i:Int)+Cc r.BX)).toNat=2*(i+(AU r.BX).length) by omega]
 have g:Zb v i r=v.extract 0 (2*i)++r.Kn++v.extract (2*(i+(AU r.BX).length)) v.size:=by unfold Zb;rw[f]
 have b:(v.extract 0 (2*i)).size=2*i:=by rw[ByteArray.size_extract];omega
 have o:(v.extract (2*(i+(AU r.BX).length)) v.size).size=v.size-2*(i+(AU r.BX).length):=by rw[ByteArray.size_extract];omega
 have D:(Zb v i r).size=2*i+r.Kn.size+(v.size-2*(i+(AU r.BX).length)):=by rw[g,ByteArray.size_append,ByteArray.size_append,b,o]
 have e:AU (Zb v i r)=(AU v).take i++(AU r.Kn++(AU v).drop (i+(AU r.BX).length)):=by
  rw[g,MU _ (by rw[ByteArray.size_append,b];omega),MU _ (by rw[b];omega)];have c:=Ji v 0 i;have d:=Ji v (i+(AU r.BX).length) (AU v).length;rw[show 2*0=0 by rfl,List.drop_zero] at c;rw[show 2*(AU v).length=v.size by omega,Cr] at d;rw[c,d,BJ]
 refine⟨by rw[f],GR.2 ⟨by omega,?_,?_,?_⟩,e⟩
 ·unfold Cc at *;omega
 ·unfold Cc at *;omega
 ·rw[e,Mj,Mj,Ul h,Uk h,s];rfl
theorem J5.may (a:J5 R v u) (d:CX v=true):CX u=true:=by
 obtain⟨r,_,b,e,c,rfl⟩:=a;exact(Qx d b c).2.1
theorem Fv.may (a:Fv R w v) (c:CX w=true):CX v=true:=a (fun s=>CX s=true) c fun _ _ ha b=>b.may ha
def Le (R:List Dj) (w:BB) (L:List BB):Prop:=L.Nodup/\∀ v,v∈L↔Fv R w v
def JK (R:List Dj) (w:BB) (b:Nat):Prop:=∃ a:List BB,a.Nodup/\(∀ v∈a,Fv R w v)/\b<a.length
theorem full_of {L:List BB} (f:L.Nodup) (h:w∈L) (d:∀ v∈L,Fv R w v) (e:∀ v∈L,∀ u,J5 R v u->u∈L):Le R w L :=
 ⟨f,fun v=>⟨d v,fun c=>c (fun i=>i∈L) h fun a b ha g=>e a ha b g⟩⟩
theorem XC {L:List BB} (b:Le R w L) (f:∀ r∈R',EA r=true->∀ v∈L,∀ i,FI v r.BX i=false):Le (R++R') w L:=by
 refine full_of b.1 ((b.2 w).2 Fv.refl) (fun v c=>((b.2 v).1 c).mono fun r a=>Bd.2 (.inl a)) fun v c u g=>?_
 obtain⟨r,a,e,i,d,rfl⟩:=g;rcases Bd.1 a with a|a
 ·exact(b.2 _).2 (((b.2 v).1 c).step ⟨r,a,e,i,d,rfl⟩)
 ·rw[f r a e v c i] at d;cases d
theorem JK.mono {b:Nat} (c:JK R w b) (g:∀ r∈R,r∈R'):JK R' w b:=by
 obtain⟨a,d,e,f⟩:=c;exact⟨a,d,fun v h=>(e v h).mono g,f⟩
theorem Nq {e : Type}:∀ {L C:List e},L.Nodup->(∀ v∈L,v∈C)->L.length<=C.length
 |[],_,_,_=>EN _
 |v::L,C,b,c=>by
  rw[Gj] at b;obtain⟨A,B,rfl⟩:=List.append_of_mem (c v (by simp));have:=Nq (L:=L) (C:=A++B) b.2 fun u d=>by
   have a:=c u (Dn _ d);rw[Bd,BI] at a;rw[Bd];rcases a with a|rfl|a
   ·exact .inl a
   ·exact Bv d b.1
   ·exact .inr a
  simp only[Ap,BF] at this ⊢;omega
theorem bO {b:Nat} {C:List BB} (j:w∈C) (f:∀ v∈C,∀ u,J5 R v u->u∈C) (m:C.length<=b):¬JK R w b:=by
 rintro⟨a,d,e,l⟩;have h:∀ v∈a,v∈C:=fun v i=>e v i (fun k=>k∈C) j fun c b ha g=>f c ha b g
 have:=Nq d h;omega
end

structure St where
 nx:Int->Option Nat
 mb:Option Nat
 wh:List Int
 wv:Value
def L9 (n:Nat):Value:=zI (n:Int)
def OT:List St->List Value
 |[]=>[]
 |s::T=>.map s.mb::s.wv::OT T
def st0:St:=⟨fun _=>none,none,[],zN⟩
def SS (W:Bc) (base:Nat) (s:St):Prop:=(s.mb=none/\∀ b,s.nx b=none)∨∃ a,s.mb=some a/\base<=a/\GI W 25 a (Value.int .u16) L9 Ey s.nx
structure EG (W:Bc) (base m:Nat) (n:Int) (g cap:Nat) (T:List St):Prop where
 ge:base<=m
 BR:AX W m 455 #[zS g 0 T.length cap,zI n]
 row:W.ownsRow base 460 2 (zS g 0 T.length cap) T.length (OT T)
 nx:∀ (i:Nat) (s:St),T[i]?= some s->SS W base s
 wh:∀ (i:Nat) (s:St),T[i]?= some s->W.ownsRow base 3 1 s.wv s.wh.length (s.wh.map iV)
 md:∀ (i j:Nat) (a b:St),T[i]?= some a->T[j]?= some b->i≠j->∀ x,a.mb=some x->b.mb≠some x
 wd:∀ (i j:Nat) (a b:St),T[i]?= some a->T[j]?= some b->i≠j->∀ x,a.wv.ownBlock=some x->b.wv.ownBlock≠some x
section
variable {W W' w:Bc} {base m g cap:Nat} {n:Int} {T:List St} {i s t:Nat} {x y:St}
theorem PX:∀ {A B:List St},OT (A++B)=OT A++OT B
 |[],_=>rfl
 |a::A,B=>by simp only[Df,OT,PX]
theorem IP:∀ {T:List St} {s:Nat},T[s]?= some x->(OT T)[s*2]?= some (.map x.mb)/\(OT T)[s*2+1]?= some x.wv
 |b::A,0,a=>by
  simp only[Es,Option.some.injEq] at a;subst a;exact⟨rfl,rfl⟩
 |b::A,s+1,a=>by
  have:=IP (T:=A) (s:=s) (by simpa using a);rw[show(s+1)*2=s*2+1+1 by omega,show s*2+1+1+1=(s*2+1)+1+1 by omega];exact this
theorem Uf:∀ {T:List St} {s:Nat},T[s]?= some x->y.wv=x.wv->(OT T).set (s*2) (.map y.mb)=OT (T.set s y)
 |b::A,0,a,e=>by
  simp only[Es,Option.some.injEq] at a;subst a;simp[OT,e]
 |b::A,s+1,a,e=>by
  have:=Uf (T:=A) (s:=s) (by simpa using a) e;rw[show(s+1)*2=s*2+1+1 by omega];simp only[OT,Bi,this]
theorem Ug:∀ {T:List St} {s:Nat},T[s]?= some x->y.mb=x.mb->(OT T).set (s*2+1) y.wv=OT (T.set s y)
 |b::A,0,a,e=>by
  simp only[Es,Option.some.injEq] at a;subst a;simp[OT,e]
 |b::A,s+1,a,e=>by
  have:=Ug (T:=A) (s:=s) (by simpa using a) e;rw[show(s+1)*2+1=(s*2+1)+1+1 by omega];simp only[OT,Bi,this]
theorem Ue:∀ {T:List St} {s:Nat},T[s]?= some x->y.mb=x.mb->y.wv=x.wv->OT (T.set s y)=OT T
 |c::A,0,a,e,b=>by
  simp only[Es,Option.some.injEq] at a;subst a;simp[OT,e,b]
 |c::A,s+1,a,e,b=>by
  have:=Ue (T:=A) (s:=s) (by simpa using a) e b;simp only[OT,Bi,this]
theorem ND (w:Bc):(zeroValue 3).run Tryz.prog w= .ok zO w:=by kernel_rfl
theorem SS.Ab {S:Nat->Prop} (a:SS W base x) (f:Am S W W') (g:∀ b,x.mb=some b->¬S b):SS W' base x:=by
 rcases a with a|⟨b,c,d,e⟩
 ·exact .inl a
 ·exact .inr ⟨b,c,d,e.Ab f (g b c)⟩
theorem SS.look (f:SS W base x) {a:Int} (ha:Ey a):(Instr.lookup 458 (.map x.mb) (zU a) true).run Tryz.prog W= .ok (.tuple #[L9 ((x.nx a).getD 0),.bool (x.nx a).isSome]) W:=by
 rcases f with⟨b,c⟩|⟨h,b,c,d⟩
 ·rw[b,c a];obtain⟨i,g⟩:=KC ha;exact Go.Maps.look_nil true JS Tryz.underlying458 (ND W) g
 ·rw[b];rcases e:x.nx a with _|t
  ·exact d.JI RZ Tryz.underlying458 ha e (ND W) true
  ·exact d.Jc RZ Tryz.underlying458 ha e true
theorem EG.Ab {S:Nat->Prop} (a:EG W base m n g cap T) (d:Am S W W') (k:¬S m) (h:¬S g) (e:∀ (i:Nat) (s:St),T[i]?= some s->∀ b,s.mb=some b->¬S b) (f:∀ (i:Nat) (s:St),T[i]?= some s->∀ b,s.wv.ownBlock=some b->¬S b):EG W' base m n g cap T :=
 ⟨a.ge,a.BR.Ab d k,Aj a.row d fun l j=>by cases j;exact h,fun i s c=>(a.nx i s c).Ab d (e i s c),fun i s c=>Aj (a.wh i s c) d (f i s c),a.md,a.wd⟩
theorem EG.AB (a:EG W base m n g cap T) (b:Au W W'):EG W' base m n g cap T:=a.Ab b id id (fun _ _ _ _ _ a=>a) fun _ _ _ _ _ a=>a
theorem EG.lt (a:EG W base m n g cap T):m<W.heap.size/\g<W.heap.size:=⟨a.BR.lt,Gd a.row rfl⟩
theorem EG.p8 (a:EG W base m n g cap T):base<=g:=BQ a.row rfl
theorem EG.apart (a:EG W base m n g cap T) (h:T[s]?= some x):m≠g/\(∀ b,x.mb=some b->b≠m/\b≠g/\base<=b/\b<W.heap.size)/\(∀ b,x.wv.ownBlock=some b->b≠m/\b≠g/\base<=b/\b<W.heap.size/\∀ (j:Nat) (z:St),T[j]?= some z->z.mb≠some b):=by
 have t:m≠g:=fun c=>Ba a.row a.BR (by decide) (by rw[c];rfl)
 have o:∀ (j:Nat) (z:St),T[j]?= some z->∀ b,z.mb=some b->b≠m/\b≠g/\base<=b/\b<W.heap.size/\∀ (q c w v:Nat) (p:Value) (y:List Value),W.ownsRow q c w p v y->p.ownBlock≠some b:=fun j z l b d=>by
  rcases a.nx j z l with⟨e,_⟩|⟨A,e,i,k⟩
  ·rw[e] at d;cases d
  ·rw[d] at e;cases e;obtain⟨B,f,_⟩:=k;exact⟨BZ (f.Ee a.BR),fun c=>f.own_ne a.row (by rw[c];rfl),i,f.lt,fun _ _ _ _ _ _ u=>f.own_ne u⟩
 refine⟨t,fun b d=>?_,fun b d=>?_⟩
 ·obtain⟨e,i,k,f,_⟩:=o s x h b d;exact⟨e,i,k,f⟩
 ·refine⟨fun c=>Ba (a.wh s x h) a.BR (by decide) (by rw[d,c]),fun c=>Ex (a.wh s x h) a.row (by decide) d (by rw[c];rfl),BQ (a.wh s x h) d,Gd (a.wh s x h) d,fun j z l c=>?_⟩;obtain⟨_,_,_,_,r⟩:=o j z l b c;exact r _ _ _ _ _ _ (a.wh s x h) d
theorem Hl (d:T[s]?= some x) {z:St} (a:(T.set s y)[i]?= some z):(i=s/\z=y)∨(i≠s/\T[i]?= some z):=by
 have e:s<T.length:=(AC.1 d).1;rw[Eh] at a;by_cases b:s=i
 ·rw[AQ b,AQ (by omega)] at a;injection a with a;exact .inl ⟨b.symm,a.symm⟩
 ·rw[Bg b] at a;exact .inr ⟨fun c=>b c.symm,a⟩
theorem EG.upd {S:Nat->Prop} (c:EG W base m n g cap T) (d:T[s]?= some x) (D:Am S W W') (K:¬S m)
  (L:W'.ownsRow base 460 2 (zS g 0 T.length cap) T.length (OT (T.set s y)))
  (G:SS W' base y) (H:W'.ownsRow base 3 1 y.wv y.wh.length (y.wh.map iV))
  (E:∀ b,y.mb=some b->x.mb=some b∨W.heap.size<=b) (F:∀ b,y.wv.ownBlock=some b->x.wv.ownBlock=some b∨W.heap.size<=b)
  (I:∀ (i:Nat) (z:St),i≠s->T[i]?= some z->∀ b,z.mb=some b->¬S b) (J:∀ (i:Nat) (z:St),i≠s->T[i]?= some z->∀ b,z.wv.ownBlock=some b->¬S b):EG W' base m n g cap (T.set s y):=by
 have w:∀ (j:Nat) (z:St),T[j]?= some z->(∀ b,z.mb=some b->b<W.heap.size)/\(∀ b,z.wv.ownBlock=some b->b<W.heap.size):=fun j z e=>⟨fun b k=>((c.apart e).2.1 b k).2.2.2,fun b k=>((c.apart e).2.2 b k).2.2.2.1⟩
 refine⟨c.ge,by rw[Dq];exact c.BR.Ab D K,by rw[Dq];exact L,fun i z e=>?_,fun i z e=>?_,fun i j o b ha k u a hq h=>?_,fun i j o b ha k u a hq h=>?_⟩
 ·rcases Hl d e with⟨_,rfl⟩|⟨q,e⟩
  ·exact G
  ·exact(c.nx i z e).Ab D (I i z q e)
 ·rcases Hl d e with⟨_,rfl⟩|⟨q,e⟩
  ·exact H
  ·exact Aj (c.wh i z e) D (J i z q e)
 ·rcases Hl d ha with⟨B,C⟩|⟨q,p⟩
  ·rcases Hl d k with⟨r,t⟩|⟨v,l⟩
   ·exact u (B.trans r.symm)
   ·rw[C] at hq;rcases E a hq with f|f
    ·exact c.md s j x b d l (fun A=>v A.symm) a f h
    ·have:=(w j b l).1 a h;omega
  ·rcases Hl d k with⟨r,t⟩|⟨v,l⟩
   ·rw[t] at h;rcases E a h with f|f
    ·exact c.md i s o x p d q a hq f
    ·have:=(w i o p).1 a hq;omega
   ·exact c.md i j o b p l u a hq h
 ·rcases Hl d ha with⟨B,C⟩|⟨q,p⟩
  ·rcases Hl d k with⟨r,t⟩|⟨v,l⟩
   ·exact u (B.trans r.symm)
   ·rw[C] at hq;rcases F a hq with f|f
    ·exact c.wd s j x b d l (fun A=>v A.symm) a f h
    ·have:=(w j b l).2 a h;omega
  ·rcases Hl d k with⟨r,t⟩|⟨v,l⟩
   ·rw[t] at h;rcases F a h with f|f
    ·exact c.wd i s o x p d q a hq f
    ·have:=(w i o p).2 a hq;omega
   ·exact c.wd i j o b p l u a hq h
theorem EG.mapped (b:EG W base m n g cap T) (f:T[s]?= some x) (hx:x.mb=none) (o:base<=W.heap.size) :
  EG ((W.alloc (.map #[] 0)).setCell (zA g (s*2)) (.map (some W.heap.size))) base m n g cap (T.set s {x with mb:=some W.heap.size}):=by
 have v:=b.lt;have r:∀ k,x.nx k=none:=by
  rcases b.nx s x f with⟨_,l⟩|⟨c,d,_⟩
  ·exact l
  ·rw[hx] at d;cases d
 have j:Am (fun e=>e=g) W ((W.alloc (.map #[] 0)).setCell (zA g (s*2)) (.map (some W.heap.size))):=((Aa (fun e=>e=g) W).alloc _).setCell (p:=zA g (s*2)) (fun _=>rfl) _;refine b.upd f j (b.apart f).1 ?_ (.inr ⟨_,rfl,o,?_⟩) ?_ (fun c a=>?_) (fun c a=>.inl a) (fun i u q h c a=>(b.apart h).2.1 c a |>.2.1) fun i u q h c a=>(b.apart h).2.2 c a |>.2.1
 ·have d:=(b.row.alloc (.map #[] 0)).stored (s*2) (.map (some W.heap.size));rw[Uf (y:={x with mb:=some W.heap.size}) f rfl] at d;exact d.1
 ·have d:GI (W.alloc (.map #[] 0)) 25 W.heap.size (Value.int .u16) L9 Ey x.nx:=by
   rw[show x.nx=fun _=>none from funext r];exact GI.new W
  exact d.Ab (S:=fun e=>e=g) ((Aa (fun e=>e=g) _).setCell (p:=zA g (s*2)) (fun _=>rfl) _) (by omega)
 ·exact Aj (b.wh s x f) j fun c a=>((b.apart f).2.2 c a).2.1
 ·cases a;exact .inr (AY _)
theorem EG.leads (d:EG W base m n g cap T) (c:T[s]?= some x) {b:Nat} (hx:x.mb=some b) {j:Int} (ha:Ey j) (t:Nat) :
  ∃ w2,(Instr.mapUpdate 458 (.map (some b)) (zU j) (L9 t)).run Tryz.prog W= .ok () w2/\EG w2 base m n g cap (T.set s {x with nx:=Ig x.nx j t})/\Am (fun k=>k=b) W w2:=by
 have w:=(d.apart c).2.1 b hx;rcases d.nx s x c with⟨f,_⟩|⟨B,f,r,u⟩
 ·rw[hx] at f;cases f
 ·rw[hx] at f;cases f;obtain⟨w2,A,v,l⟩:=u.put (T:=458) (e:=3) RZ Tryz.underlying458 ha t;refine⟨w2,A,d.upd c l (by omega) ?_ (.inr ⟨b,hx,r,v⟩) ?_ (fun e a=>.inl a) (fun e a=>.inl a) (fun i q p o e a h=>?_) fun i q p o e a h=>?_,l⟩
  ·rw[Ue (y:={x with nx:=Ig x.nx j t}) c rfl rfl];exact Aj d.row l fun k z (a:k=b)=>by cases z;exact w.2.1 a.symm
  ·exact Aj (d.wh s x c) l fun e a h=>(d.apart c).2.2 e a |>.2.2.2.2 s x c (by rw[hx,h])
  ·exact d.md i s q x o c p e a (by rw[hx,h])
  ·exact(d.apart o).2.2 e a |>.2.2.2.2 s x c (by rw[hx,h])
theorem EG.pushed {g2 cap2:Nat} {wa:Bc} (c:EG W base m n g cap T) (x:wa.ownsRow base 460 2 (zS g2 0 (T.length+1) cap2) (T.length+1) (OT T++[.map none,zN])) (r:Am (fun k=>k=g) W wa) :
  EG (wa.setCell (zA m 0) (zS g2 0 (T.length+1) cap2)) base m n g2 cap2 (T++[st0]):=by
 have B:m≠g:=fun d=>Ba c.row c.BR (by decide) (by rw[d];rfl)
 have w:=c.BR.Ab r B;have s:Am (fun k=>k=m) wa (wa.setCell (zA m 0) (zS g2 0 (T.length+1) cap2)):=(Aa (fun k=>k=m) _).setCell (p:=zA m 0) (fun _=>rfl) _;have h:∀ (i:Nat) (e:St),(T++[st0])[i]?= some e->T[i]?= some e∨(i=T.length/\e=st0):=fun i e a=>by
  rcases Co i T.length with u|u
  ·rw[Cx u] at a;exact .inl a
  ·rw[Cq u] at a;have q:i-T.length=0:=by
    rcases Nat.eq_zero_or_pos (i-T.length) with q|q
    ·exact q
    ·rw[En (by simp;omega)] at a;cases a
   rw[q] at a;injection a with a;exact .inr ⟨by omega,a.symm⟩
 refine⟨c.ge,?_,?_,fun i e a=>?_,fun i e a=>?_,fun i o j b ha f t v hq l=>?_,fun i o j b ha f t v hq l=>?_⟩
 ·rw[Ap];exact w.Dw 0 _
 ·rw[PX,Ap];exact Aj x s fun k A d=>Ba x w (by decide) (by rw[<- d];exact A)
 ·rcases h i e a with a|⟨_,rfl⟩
  ·exact((c.nx i e a).Ab r fun b d=>((c.apart a).2.1 b d).2.1).Ab s fun b d=>((c.apart a).2.1 b d).1
  ·exact .inl ⟨rfl,fun _=>rfl⟩
 ·rcases h i e a with a|⟨_,rfl⟩
  ·exact Aj (Aj (c.wh i e a) r fun b d=>((c.apart a).2.2 b d).2.1) s fun b d=>((c.apart a).2.2 b d).1
  ·exact World.ownsRow_nil _ _ _ _
 ·rcases h i j ha with ha|⟨y,rfl⟩
  ·rcases h o b f with f|⟨z,rfl⟩
   ·exact c.md i o j b ha f t v hq l
   ·cases l
  ·cases hq
 ·rcases h i j ha with ha|⟨y,rfl⟩
  ·rcases h o b f with f|⟨z,rfl⟩
   ·exact c.wd i o j b ha f t v hq l
   ·cases l
  ·cases hq
theorem EG.ended {g2 cap2:Nat} {wa:Bc} {k:Int} (c:EG W base m n g cap T) (d:T[s]?= some x) (v:wa.ownsRow base 3 1 (zS g2 0 (x.wh.length+1) cap2) (x.wh.length+1) (x.wh.map iV++[iV k])) (l:Am (fun k=>x.wv.ownBlock=some k) W wa) (r:x.wv.ownBlock=some g2∨W.heap.size<=g2) :
  EG (wa.setCell (zA g (s*2+1)) (zS g2 0 (x.wh.length+1) cap2)) base m n g cap (T.set s {x with wh:=x.wh++[k],wv:=zS g2 0 (x.wh.length+1) cap2}):=by
 have B:=c.lt;have o:Am (fun k=>x.wv.ownBlock=some k∨k=g) W (wa.setCell (zA g (s*2+1)) (zS g2 0 (x.wh.length+1) cap2)):=(l.mono fun _ _ c=>.inl c).setCell (p:=zA g (s*2+1)) (fun _=>.inr rfl) _;have q:x.wv.ownBlock≠some g:=fun b=>((c.apart d).2.2 g b).2.1 rfl
 have w:=Aj c.row l fun k A b=>by cases A;exact q b
 have z:g2≠g:=by
  rcases r with a|a
  ·exact fun b=>q (by rw[a,b])
  ·omega
 refine c.upd d o ?_ ?_ ?_ ?_ (fun e b=>.inl b) (fun e b=>?_) (fun i j t h e b f=>?_) fun i j t h e b f=>?_
 ·rintro(a|a)
  ·exact((c.apart d).2.2 m a).1 rfl
  ·exact(c.apart d).1 a
 ·have a:=w.stored (s*2+1) (zS g2 0 (x.wh.length+1) cap2);rw[Ug (y:={x with wh:=x.wh++[k],wv:=zS g2 0 (x.wh.length+1) cap2}) d rfl] at a;exact a.1
 ·refine SS.Ab (x:={x with wh:=x.wh++[k],wv:=zS g2 0 (x.wh.length+1) cap2}) (c.nx s x d) o fun e b f=>?_
  rcases f with a|a
  ·exact((c.apart d).2.2 e a).2.2.2.2 s x d b
  ·exact((c.apart d).2.1 e b).2.1 a
 ·show World.ownsRow _ base 3 1 _ (x.wh++[k]).length ((x.wh++[k]).map iV);rw[Ap,Bw];exact Aj v ((Aa (fun k=>k=g) _).setCell (p:=zA g (s*2+1)) (fun _=>rfl) _) fun C b f=>by cases b;exact z f
 ·cases b;exact r
 ·rcases f with a|a
  ·exact((c.apart d).2.2 e a).2.2.2.2 i j h b
  ·exact((c.apart h).2.1 e b).2.1 a
 ·rcases f with a|a
  ·exact c.wd i s j x h d t e b a
  ·exact((c.apart h).2.2 e b).2.1 a
end

structure QH (P:List (List Int)) (T:List St) (F:List Int->List Int):Prop where
 len:P.length=T.length
 nd:P.Nodup
 root:P[0]?= some []
 nx:∀ (s:Nat) (x:St) p,T[s]?= some x->P[s]?= some p->∀ a t,x.nx a=some t↔P[t]?= some (p++[a])
 wh:∀ (s:Nat) (x:St) p,T[s]?= some x->P[s]?= some p->x.wh=F p
 pre:∀ p a,p++[a]∈P->p∈P
 out:∀ p,p∉P->F p=[]
section
variable {W W' w:Bc} {base m g cap:Nat} {n:Int} {T:List St} {i s t:Nat} {x y:St} {P:List (List Int)} {F:List Int->List Int} {p:List Int} {a:Int}
theorem QH.get (a:QH P T F) (d:P[s]?= some p):∃ x,T[s]?= some x:=by
 have b:s<P.length:=(AC.1 d).1;have c:s<T.length:=by rw[<- a.len];exact b
 exact⟨_,Ah c⟩
theorem QH.same (a:QH P T F) (c:T[s]?= some x) (hx:y.nx=x.nx) (j:y.wh=x.wh):QH P (T.set s y) F:=by
 refine⟨by rw[Dq];exact a.len,a.nd,a.root,fun i h b f hq=>?_,fun i h b f hq=>?_,a.pre,a.out⟩
 ·rcases Hl c f with⟨d,e⟩|⟨_,g⟩
  ·rw[e,hx];rw[d] at hq;exact a.nx s x b c hq
  ·exact a.nx i h b g hq
 ·rcases Hl c f with⟨d,e⟩|⟨_,g⟩
  ·rw[e,j];rw[d] at hq;exact a.wh s x b c hq
  ·exact a.wh i h b g hq
theorem get_inj {h : Type} {l:List h} (b:l.Nodup) {i j:Nat} {a:h} (m:l[i]?= some a) (n:l[j]?= some a):i=j:=by
 obtain⟨d,e⟩:=AC.1 m;obtain⟨f,g⟩:=AC.1 n;rw[List.Nodup,List.pairwise_iff_getElem] at b;rcases Nat.lt_trichotomy i j with c|k|c
 ·exact Bv (e.trans g.symm) (b i j d f c)
 ·exact k
 ·exact Bv (g.trans e.symm) (b j i f d c)
theorem JP {f : Type} {l:List f} {b a:f} {i:Nat}:(l++[b])[i]?= some a↔l[i]?= some a∨(i=l.length/\a=b):=by
 rcases Co i l.length with d|d
 ·rw[Cx d];exact⟨.inl,fun c=>c.elim id fun c=>by omega⟩
 ·rw[Cq d];constructor
  ·intro c;have g:i-l.length<[b].length:=(AC.1 c).1;simp at g;have e:i=l.length:=by omega
   rw[e,FT] at c;injection c with c;exact .inr ⟨e,c.symm⟩
  ·rintro(c|⟨rfl,rfl⟩)
   ·have:=(AC.1 c).1;omega
   ·simp
theorem QH.push (c:QH P T F) (k:T[s]?= some x) (j:P[s]?= some p) (B:x.nx a=none):QH (P++[p++[a]]) (T.set s {x with nx:=Ig x.nx a T.length}++[st0]) F:=by
 have m:p++[a]∉P:=fun f=>by
  obtain⟨t,ht⟩:=Dh.1 f;have:=(c.nx s x p k j a t).2 ht;rw[B] at this;cases this
 have C:p∈P:=Bn j;have r:∀ d e,d++[e]=p++[a]->d=p/\e=a:=fun d e b=>by
  have:=List.append_inj' b rfl;exact⟨this.1,by simpa using this.2⟩
 refine⟨by simp[c.len],?_,?_,fun i w d g hq e t=>?_,fun i w d g hq=>?_,fun d e f=>?_,fun d hq=>?_⟩
 ·rw[List.nodup_append];exact⟨c.nd,by simp,fun E D G z b=>m (by rw[Ai] at z;rw[<- z,<- b];exact D)⟩
 ·rw[JP];exact .inl c.root
 ·rw[JP] at g hq ⊢;rcases g with g|⟨l,v⟩
  ·have A:i<T.length:=by have:=(AC.1 g).1;rwa [Dq] at this
   have h:P[i]?= some d:=by
    rcases hq with hq|⟨hq,_⟩
    ·exact hq
    ·rw[c.len] at hq;omega
   rcases Hl k g with⟨n,o⟩|⟨y,u⟩
   ·subst n o;rw[j] at h;cases h;show Ig x.nx a T.length e=some t↔_;unfold Ig;by_cases q:e=a
    ·subst q;rw[AQ rfl];constructor
     ·intro b;injection b with b;exact .inr ⟨by rw[c.len];exact b.symm,rfl⟩
     ·rintro(b|⟨b,_⟩)
      ·exact Bv (Bn b) m
      ·rw[b,c.len]
    ·rw[Bg q,c.nx i x p k j e t];exact⟨.inl,fun b=>b.elim id fun b=>Bv (r _ _ b.2).2 q⟩
   ·rw[c.nx i w d u h e t];refine⟨.inl,fun b=>b.elim id fun b=>?_⟩;have:=(r _ _ b.2).1;subst this;exact Bv (get_inj c.nd h j) y
  ·rw[Dq] at l;subst l v;have h:d=p++[a]:=by
    rcases hq with hq|⟨_,hq⟩
    ·have:=(AC.1 hq).1;rw[c.len] at this;omega
    ·exact hq
   subst h;refine⟨fun b=>(by cases b),fun b=>?_⟩;rcases b with b|⟨_,b⟩
   ·exact Bv (c.pre _ _ (Bn b)) m
   ·have:=Bu List.length b;simp at this
 ·rw[JP] at g hq;rcases g with g|⟨l,v⟩
  ·have A:i<T.length:=by have:=(AC.1 g).1;rwa [Dq] at this
   have h:P[i]?= some d:=by
    rcases hq with hq|⟨hq,_⟩
    ·exact hq
    ·rw[c.len] at hq;omega
   rcases Hl k g with⟨n,o⟩|⟨y,u⟩
   ·subst n o;exact c.wh i x d k h
   ·exact c.wh i w d u h
  ·rw[Dq] at l;subst l v;rcases hq with hq|⟨_,hq⟩
   ·have:=(AC.1 hq).1;rw[c.len] at this;omega
   ·rw[hq,c.out _ m];rfl
 ·rw[Bd] at f ⊢;rcases f with f|f
  ·exact .inl (c.pre d e f)
  ·rw[Ai] at f;rw[(r d e f).1];exact .inl C
 ·exact c.out d fun f=>hq (Bd.2 (.inl f))
def RV (F:List Int->List Int) (p:List Int) (k:Int):List Int->List Int:=fun a=>if a=p then F p++[k] else F a
theorem QH.ended (a:QH P T F) (d:T[s]?= some x) (c:P[s]?= some p) {k:Int} (o:y.nx=x.nx) (n:y.wh=x.wh++[k]):QH P (T.set s y) (RV F p k):=by
 refine⟨by rw[Dq];exact a.len,a.nd,a.root,fun i l b h hq=>?_,fun i l b h hq=>?_,a.pre,fun b hq=>?_⟩
 ·rcases Hl d h with⟨f,g⟩|⟨_,j⟩
  ·rw[g,o];rw[f] at hq;exact a.nx s x b d hq
  ·exact a.nx i l b j hq
 ·unfold RV;rcases Hl d h with⟨f,g⟩|⟨m,j⟩
  ·subst f g;rw[c] at hq;cases hq;rw[AQ rfl,n,a.wh i x _ d c]
  ·rw[Bg fun e=>by rw[e] at hq;exact m (get_inj a.nd hq c)];exact a.wh i l b j hq
 ·unfold RV;rw[Bg fun e=>by rw[e] at hq;exact hq (Bn c)];exact a.out b hq
theorem EG.kU (a:EG W base m n g cap T):m≠g:=fun b=>Ba a.row a.BR (by decide) (by rw[b];rfl)
theorem Nf:(Tryz.prog.info? 3).map (fun i=>(i.zero,i.size,i.bytes))=some (some zO,1,8):=by kernel_rfl
theorem aJ:(Tryz.prog.info? 460).map (fun i=>(i.zero,i.size,i.bytes))=some (some (.agg #[.map none,zN]),2,32):=by kernel_rfl
def nY (w:Bc) (base m:Nat) (n k:Int) (P:List (List Int)) (F:List Int->List Int) (s:BB) (e:Ending) (w':Bc):Prop :=
 ∃ c b P2 a,e= .returned (.tuple #[])/\EG w' base m n c b a/\QH P2 a (RV F (AU s) k)/\AU s∈P2/\(∀ p∈P,p∈P2)/\P2.length<=P.length+8/\Am (fun k=>base<=k) w w'
theorem bH (k:Int) (s:BB) (w:Bc) (cx:EG w base m n g cap T) (da:QH P T F) (ec:s.size<=16) (dy:base<=w.heap.size) (ea:P.length<=10000) (dt:∀ p,(F p).length<=100000) :
  Calls Tryz.prog 303 #[zP m,zI k,.string s] w (nY w base m n k P F s):=by
 have de:s.size<=maxLen:=by unfold maxLen;omega
 have df:=Lh (F5 s w de);have dc:=BG s;have di:Hid (Cc s=((AU s).length:Int)):=Lh (by rw[dc];unfold Cc;omega);have e:=Lh cx;have A:=Lh da;have ax:Hid ((AU s).length<=8):=Lh (by omega);clear cx da dc;go_in;go_wp2_with (go_at_call 133;refine df.out.mono ?_;rintro h f ⟨rfl,rfl⟩);rw[di.out];generalize cw:(AU s).length=au at ax ⊢;have cr:=Lh cw;clear cw;go_loopg [13,6] au fun gk i dj wr=>∃ (j d:Nat) (b l:Nat) (P2:List (List Int)) (D:List St),j+gk=au/\i=zI j/\dj=zI d/\Hid (EG wr base m n b l D)/\Hid (QH P2 D F)/\Hid (P2[d]?= some ((AU s).take j))/\Hid (∀ p∈P,p∈P2)/\Hid (P2.length<=P.length+j)/\Hid (Am (fun k=>base<=k) w wr)
 case atStart =>
  exact⟨0,0,g,cap,P,T,by omega,rfl,rfl,e,A,Lh (by rw[Ei];exact A.out.root),Lh fun _ u=>u,Lh (by omega),Lh (Aa _ _)⟩
 case round =>
  obtain⟨j,d,b,l,P2,D,dz,rfl,rfl,e,A,aj,bp,ba,z⟩:=hrel;by_cases dq:j<au
  ·have cm:j<(AU s).length:=by rw[cr.out];exact dq
   have aq:=GM cm;have bm:=Lh fun W=>Ms s (j:Int) W de ⟨by omega,by have:=ax.out;omega⟩
   have bu:Hid ((AU s).take (j+1)=(AU s).take j++[G6 s (j:Int)]):=Lh (by rw[AP cm,aq]);have cp:0<=G6 s (j:Int)/\G6 s (j:Int)<=65535:=IJ _ _;clear aq cm;generalize G6 s (j:Int)=a at bm bu cp;obtain⟨x,hx⟩:=A.out.get aj.out;have y:=Lh hx;have bk:d<D.length:=(AC.1 hx).1;obtain⟨c,ar⟩:∃ c,c=D.length:=⟨_,rfl⟩
   have ds:(d:Int)<(c:Int):=by omega
   have am:=Lh bk;have X:=Lh ar;have dp:(j:Int)<(au:Int):=by omega
   have bd:=Lh cp;clear hx bk ar cp;have eb:(au:Int)<=8:=by have:=ax.out;omega
   have ee:=fun(W:Bc) r=>run_eql_map_nil W 458 _ _ r Tryz.underlying458
   rcases bx:x.nx a with _|t
   ·have ai:=Lh bx;clear bx;obtain⟨ce,bv,cb,cc,cd⟩:=info_parts aJ;have bz:Hid (c<=10008):=Lh (by have:=ba.out;have:=A.out.len;have:=X.out;have:=ax.out;omega);have ct:Hid (d<c):=Lh (by omega);rcases bw:x.mb with _|ah
    ·have bq:=Lh bw;have dr:=@run_makeMap Tryz.prog;clear bw;go_upto_region 10 with(go_at_call 134;refine(bm.out _).mono ?_;rintro h f ⟨rfl,q,hq⟩;have eg:Au wr f:=(by subst hq;exact(Aa _ wr).drewN q);clear hq;replace e:=Lh (e.out.AB eg);replace z:=Lh (z.out.AJ eg fun _ _ u=>u.elim);clear eg;have H:Cl f m 0 (zS b 0 c l):=(by rw[X.out];exact e.out.BR.cell 0);have O:Cl f b (d*2) (.map none):=((e.out.row.cellAt _ (by have:=am.out;omega)).trans (IP y.out).1).trans (by rw[bq.out]);have J:=(e.out.nx d x y.out).look bd.out;rw[ai.out] at J;rw[bq.out] at J;have cn:=e.out.AB ((Aa _ f).alloc (.map #[] 0));have dn:(f.alloc (.map #[] 0)).frozen? (zA b (d*2))=false:=cn.row.frozenAt _;have dl:(f.alloc (.map #[] 0)).cell? (zA b (d*2))=some (.map none):=((cn.row.cellAt _ (by have:=am.out;omega)).trans (IP y.out).1).trans (by rw[bq.out]);clear cn;simp only[Option.getD_none,Gn,L9] at J)
     have cy:=e.out.mapped y.out bq.out (by have:=z.out.size;omega);have C:=Lh cy;have N:Hid ((D.set d {x with mb:=some f.heap.size})[d]?= some {x with mb:=some f.heap.size}):=Lh (by rw[Eh,AQ rfl,AQ (by have:=am.out;omega)]);have az:Hid (QH P2 (D.set d {x with mb:=some f.heap.size}) F):=Lh (A.out.same y.out rfl rfl);have L:Hid ((D.set d {x with mb:=some f.heap.size}).length=c):=Lh (by rw[Dq];exact X.out.symm);have bs:Hid (({x with mb:=some f.heap.size}:St).nx a=none):=Lh ai.out;have db:Am (fun k=>base<=k) f ((f.alloc (.map #[] 0)).setCell (zA b (d*2)) (.map (some f.heap.size))):=((Aa (fun k=>base<=k) f).alloc _).setCell (p:=zA b (d*2)) (fun _=>e.out.p8) _;have bb:=Lh (z.out.AJ db fun _ _ u=>u);clear cy db H O dl dn J dr;obtain⟨R,cq⟩:∃ R:St,R = {x with mb:=some f.heap.size}:=⟨_,rfl⟩
     obtain⟨G,cl⟩:∃ G,G=f.heap.size:=⟨_,rfl⟩
     have V:Hid (R.mb=some G):=Lh (by rw[cq,cl]);rw[<- cq] at C N az L bs;rw[<- cl] at C bb ⊢;clear cq cl;generalize D.set d R=ao at C N az L;generalize (f.alloc (.map #[] 0)).setCell (zA b (d*2)) (.map (some G))=ak at C bb ⊢;obtain⟨o,bj,Q,bf⟩:=C.out.leads N.out V.out bd.out c;simp only[L9] at bj;have H:Cl ak m 0 (zS b 0 c l):=by rw[<- L.out];exact C.out.BR.cell 0
     have O:Cl ak b (d*2) (.map (some G)):=((C.out.row.cellAt _ (by have:=ct.out;have:=L.out;omega)).trans (IP N.out).1).trans (by rw[V.out]);have bh:=(C.out.apart N.out).2.1 G V.out;have bc:=Lh (bb.out.AJ bf fun k eg h=>by rw[show k=G from h];exact bh.2.2.1);clear bf bh;go_upto_region 11 with(fail)
     clear H O bj;obtain⟨E,Z⟩:∃ E,E=ao.set d {R with nx:=Ig R.nx a c}:=⟨_,rfl⟩
     have ci:Hid (QH (P2++[(AU s).take j++[a]]) (E++[st0]) F):=Lh (by rw[Z];have:=az.out.push N.out aj.out bs.out;rw[L.out] at this;exact this);have aa:E.length=c:=by rw[Z,Dq];exact L.out
     rw[<- Z] at Q;have M:=Lh Q;have aw:=Lh aa;have be:o.ownsRow base 460 2 (zS b 0 c l) c (OT E):=by rw[<- aa];exact Q.row
     have ch:=Lh be;have H:Cl o m 0 (zS b 0 c l):=by rw[<- aa];exact Q.BR.cell 0
     clear Q aa Z be;go_wp2_with (at_builtin;go_must (refine wpList_append_lies _ rfl (.tmp 70) (.tmp 72) 453 rfl base 460 ce _ 2 32 Tryz.underlying453 bv cb cc cd rfl (by omega) (zS b 0 c l) c _ rfl (ch.out.alloc _) (zA o.heap.size 0) 1 1 [.map none,zN] rfl rfl (World.news_of_block (cs:=#[.map none,zN]) (t:=460) (fr:=(0,0)) (heap_alloc_new o _)) (by simp[Value.oneCell']) (by omega) (by have:=bz.out;unfold maxLen;omega) (by have:=bz.out;omega) (by have:=bc.out.size;simp;omega) (o.heap.size+1) (by simp) ?_);intro U cap v ae ag aq bi;have I:Am (fun k=>k=b) o v:=((Aa _ o).alloc _).grown ag (fun k u _=>by cases u;rfl);have av:=Lh (M.out.BR.Ab I (M.out.kU));have dk:=av.out.cell 0;have dm:=av.out.frozen 0;have ay:=Lh ae;have ac:=Lh I;clear ae ag aq bi I);have af:=M.out.pushed (g2:=U) (cap2:=cap) (wa:=v) (by rw[aw.out];exact ay.out) ac.out;rw[aw.out] at af;have bg:Am (fun k=>k=m) v (v.setCell (zA m 0) (zS U 0 (c+1) cap)):=(Aa (fun k=>k=m) _).setCell (p:=zA m 0) (fun _=>rfl) _;have ck:=(bc.out.AJ ac.out fun k eg h=>by rw[show k=b from h];exact M.out.p8).AJ bg fun k eg h=>by rw[show k=m from h];exact M.out.ge
     go_roundg (gk-1)
     case measure=>omega
     case rel=>exact⟨j+1,c,U,cap,P2++[(AU s).take j++[a]],E++[st0],by omega,by go_num,rfl,Lh af,ci,Lh (by rw[bu.out,show c=P2.length by have:=A.out.len;have:=X.out;omega,Cq (AY _),FT];rfl),Lh fun p co=>Bd.2 (.inl (bp.out p co)),Lh (by have:=ba.out;simp;omega),Lh ck⟩
    ·have V:=Lh bw;clear bw;go_upto_region 10 with(go_at_call 134;refine(bm.out _).mono ?_;rintro h f ⟨rfl,q,hq⟩;have eg:Au wr f:=(by subst hq;exact(Aa _ wr).drewN q);clear hq;replace e:=Lh (e.out.AB eg);replace z:=Lh (z.out.AJ eg fun _ _ u=>u.elim);clear eg;have H:Cl f m 0 (zS b 0 c l):=(by rw[X.out];exact e.out.BR.cell 0);have O:Cl f b (d*2) (.map (some ah)):=((e.out.row.cellAt _ (by have:=am.out;omega)).trans (IP y.out).1).trans (by rw[V.out]);have J:=(e.out.nx d x y.out).look bd.out;rw[ai.out] at J;rw[V.out] at J;simp only[Option.getD_none,Gn,L9] at J)
     clear H O J;obtain⟨R,rfl⟩:∃ R,R=x:=⟨_,rfl⟩
     obtain⟨ao,rfl⟩:∃ ao,ao=D:=⟨_,rfl⟩
     obtain⟨ak,rfl⟩:∃ ak,ak=f:=⟨_,rfl⟩
     obtain⟨G,rfl⟩:∃ G,G=ah:=⟨_,rfl⟩
     have C:=e;have N:=y;have az:=A;have L:Hid (ao.length=c):=Lh X.out.symm;have bs:=ai;have bb:=z;obtain⟨o,bj,Q,bf⟩:=C.out.leads N.out V.out bd.out c;simp only[L9] at bj;have H:Cl ak m 0 (zS b 0 c l):=by rw[<- L.out];exact C.out.BR.cell 0
     have O:Cl ak b (d*2) (.map (some G)):=((C.out.row.cellAt _ (by have:=ct.out;have:=L.out;omega)).trans (IP N.out).1).trans (by rw[V.out]);have bh:=(C.out.apart N.out).2.1 G V.out;have bc:=Lh (bb.out.AJ bf fun k eg h=>by rw[show k=G from h];exact bh.2.2.1);clear bf bh;go_upto_region 11 with(fail)
     clear H O bj;obtain⟨E,Z⟩:∃ E,E=ao.set d {R with nx:=Ig R.nx a c}:=⟨_,rfl⟩
     have ci:Hid (QH (P2++[(AU s).take j++[a]]) (E++[st0]) F):=Lh (by rw[Z];have:=az.out.push N.out aj.out bs.out;rw[L.out] at this;exact this);have aa:E.length=c:=by rw[Z,Dq];exact L.out
     rw[<- Z] at Q;have M:=Lh Q;have aw:=Lh aa;have be:o.ownsRow base 460 2 (zS b 0 c l) c (OT E):=by rw[<- aa];exact Q.row
     have ch:=Lh be;have H:Cl o m 0 (zS b 0 c l):=by rw[<- aa];exact Q.BR.cell 0
     clear Q aa Z be;go_wp2_with (at_builtin;go_must (refine wpList_append_lies _ rfl (.tmp 70) (.tmp 72) 453 rfl base 460 ce _ 2 32 Tryz.underlying453 bv cb cc cd rfl (by omega) (zS b 0 c l) c _ rfl (ch.out.alloc _) (zA o.heap.size 0) 1 1 [.map none,zN] rfl rfl (World.news_of_block (cs:=#[.map none,zN]) (t:=460) (fr:=(0,0)) (heap_alloc_new o _)) (by simp[Value.oneCell']) (by omega) (by have:=bz.out;unfold maxLen;omega) (by have:=bz.out;omega) (by have:=bc.out.size;simp;omega) (o.heap.size+1) (by simp) ?_);intro U cap v ae ag aq bi;have I:Am (fun k=>k=b) o v:=((Aa _ o).alloc _).grown ag (fun k u _=>by cases u;rfl);have av:=Lh (M.out.BR.Ab I (M.out.kU));have dk:=av.out.cell 0;have dm:=av.out.frozen 0;have ay:=Lh ae;have ac:=Lh I;clear ae ag aq bi I);have af:=M.out.pushed (g2:=U) (cap2:=cap) (wa:=v) (by rw[aw.out];exact ay.out) ac.out;rw[aw.out] at af;have bg:Am (fun k=>k=m) v (v.setCell (zA m 0) (zS U 0 (c+1) cap)):=(Aa (fun k=>k=m) _).setCell (p:=zA m 0) (fun _=>rfl) _;have ck:=(bc.out.AJ ac.out fun k eg h=>by rw[show k=b from h];exact M.out.p8).AJ bg fun k eg h=>by rw[show k=m from h];exact M.out.ge
     go_roundg (gk-1)
     case measure=>omega
     case rel=>exact⟨j+1,c,U,cap,P2++[(AU s).take j++[a]],E++[st0],by omega,by go_num,rfl,Lh af,ci,Lh (by rw[bu.out,show c=P2.length by have:=A.out.len;have:=X.out;omega,Cq (AY _),FT];rfl),Lh fun p co=>Bd.2 (.inl (bp.out p co)),Lh (by have:=ba.out;simp;omega),Lh ck⟩
   ·have ai:=Lh bx;clear bx;go_wp2_with (go_at_call 134;refine(bm.out _).mono ?_;rintro h f ⟨rfl,q,hq⟩;have eg:Au wr f:=(by subst hq;exact(Aa _ wr).drewN q);clear hq;replace e:=Lh (e.out.AB eg);replace z:=Lh (z.out.AJ eg fun _ _ u=>u.elim);clear eg;have H:Cl f m 0 (zS b 0 c l):=(by rw[X.out];exact e.out.BR.cell 0);have O:Cl f b (d*2) (.map x.mb):=((e.out.row.cellAt _ (by have:=am.out;omega)).trans (IP y.out).1);have J:=(e.out.nx d x y.out).look bd.out;rw[ai.out] at J;simp only[Option.getD_some,Option.isSome_some,L9] at J);go_roundg (gk-1)
    case measure=>omega
    case rel=>exact⟨j+1,t,b,l,P2,D,by omega,by go_num,rfl,e,A,Lh (by rw[bu.out];exact(A.out.nx d x _ y.out aj.out a t).1 ai.out),bp,Lh (by have:=ba.out;omega),z⟩
  ·obtain rfl:j=au:=by omega
   have dp:¬(j:Int)<(j:Int):=by omega
   obtain⟨x,hx⟩:=A.out.get aj.out;have y:=Lh hx;have bk:d<D.length:=(AC.1 hx).1;obtain⟨c,ar⟩:∃ c,c=D.length:=⟨_,rfl⟩
   have ds:(d:Int)<(c:Int):=by omega
   have am:=Lh bk;have X:=Lh ar;obtain⟨al,ap,ca⟩:=BD (e.out.wh d x hx);have an:=Lh ca;obtain⟨K,bl⟩:∃ K,K=x.wh.length:=⟨_,rfl⟩
   have ad:=Lh bl;have H:Cl wr m 0 (zS b 0 c l):=by rw[ar];exact e.out.BR.cell 0
   have O:Cl wr b (d*2+1) (.slice al K ap):=((e.out.row.cellAt _ (by omega)).trans (IP hx).2).trans (by rw[ca,bl]);have cz:wr.ownsRow base 3 1 (.slice al K ap) K (x.wh.map iV):=by have:=e.out.wh d x hx;rw[ca,<- bl] at this;exact this
   have bt:=Lh cz;have ed:K<=100000:=by rw[bl,A.out.wh d x _ hx aj.out];exact dt _
   obtain⟨ce,bv,cb,cc,cd⟩:=info_parts Nf;clear hx bk ar ca bl cz;go_wp2_with fail;refine EQ 18 (S:=fun W=>Cl W m 0 (zS b 0 c l)/\Cl W b (d*2+1) (.slice al K ap)) (by kernel_rfl) ⟨H,O⟩ fun ef=>?_
   replace e:=Lh (e.out.AB ((Aa _ wr).drew));replace z:=Lh (z.out.AJ ((T0 wr).drew) fun _ _ u=>u.elim);replace bt:=Lh bt.out.drew;generalize wr.drew=o at e z bt ef ⊢;clear H O;refine zq 0 78 ef ?_;refine zq 1 79 ef ?_;refine zq 2 80 ef ?_;refine zq 3 81 ef ?_;refine zq 4 82 ef ?_;refine zq 5 83 ef ?_;refine zq 6 84 ef ?_;refine zq 7 85 ef ?_;refine zq 8 86 ef ?_;refine zq 9 87 ef ?_;refine zq 10 88 ef ?_;refine zq 11 89 ef ?_;refine zq 12 90 ef ?_;refine zq 13 91 ef ?_;have br:=Lh e.out.lt;have cv:=ef;have bo:=Lh cv;clear cv;refine zs 14 rfl fun Y B=>?_
   go_simp;refine B.out _ _ ⟨(World.cell?_alloc_lt _ _ _ br.out.1).trans bo.out.1,(World.cell?_alloc_lt _ _ _ br.out.2).trans bo.out.2⟩ fun ef=>?_
   clear B Y;refine zs 15 rfl fun Y B=>?_
   rw[AQ (by rfl)];refine wp_append_lies _ (.tmp 90) (.tmp 92) 205 rfl base 3 ce _ 1 8 Tryz.underlying205 bv cb cc cd rfl (by omega) (.slice al K ap) K _ rfl (bt.out.alloc _) (zA o.heap.size 0) 1 1 [zI k] rfl rfl (World.news_of_block (cs:=#[zI k]) (t:=3) (fr:=(0,0)) (heap_alloc_new o _)) (by simp[Value.oneCell']) (by omega) (by unfold maxLen;omega) (by omega) (by have:=z.out.size;simp;omega) (o.heap.size+1) (by simp) ?_;intro U cu v ae ag dd bi;rw[Ga 93 (by rfl)];dsimp only[Act.put,AZ,Bq,Bi];have I:Am (fun k=>(Value.slice al K ap).ownBlock=some k) o v:=((Aa _ o).alloc _).grown ag fun k u _=>u
   have cf:=Lh ((e.out.apart y.out).2.2);have cg:Hid (Cl v m 0 (zS b 0 c l)):=Lh ((I.cell (p:=zA m 0) br.out.1 fun h=>(cf.out m (by rw[an.out,<- ad.out];exact h)).1 rfl).trans bo.out.1);have bn:Hid (Cl v b (d*2+1) (.slice al K ap)):=Lh ((I.cell (p:=zA b (d*2+1)) br.out.2 fun h=>(cf.out b (by rw[an.out,<- ad.out];exact h)).2.1 rfl).trans bo.out.2);have dh:Hid (v.frozen? (zA b (d*2+1))=false):=Lh ((Aj e.out.row I fun k eg h=>by cases eg;exact(cf.out b (by rw[an.out,<- ad.out];exact h)).2.1 rfl).frozenAt _);have ac:=Lh I;have ay:=Lh ae;have dg:=Lh dd;clear I ae ag dd bi;refine B.out _ _ ⟨cg.out,bn.out⟩ fun ef=>?_
   clear B Y;refine zs 16 rfl fun Y B=>?_
   go_simp;refine B.out _ _ ⟨cg.out,bn.out⟩ fun ef=>?_
   clear B Y;refine zs 17 rfl fun Y B=>?_
   go_simp;refine B.out _ _ ⟨cg.out,bn.out⟩ fun ef=>?_
   clear B Y;refine zl fun Y B=>?_
   have dw:=bn.out;have dx:=dh.out;go_simp;refine B.out _ _ ?_;clear B Y;refine zd ?_;go_wp2_with fail;have af:=e.out.ended y.out (k:=k) (g2:=U) (cap2:=cu) (wa:=v) (by rw[<- ad.out];exact ay.out) (by rw[an.out,<- ad.out];exact ac.out) (by rw[an.out,<- ad.out];exact dg.out.imp id fun h=>by omega);rw[<- ad.out] at af;have cj:=aj.out;rw[Bt (Nat.le_of_eq cr.out)] at cj;have bg:Am (fun k=>k=b) v (v.setCell (zA b (d*2+1)) (zS U 0 (K+1) cu)):=(Aa (fun k=>k=b) _).setCell (p:=zA b (d*2+1)) (fun _=>rfl) _;refine bodyPost_ret (results_none rfl _ _ _) rfl ⟨b,l,P2,_,rfl,af,A.out.ended y.out cj rfl rfl,Bn cj,bp.out,by have:=ba.out;have:=ax.out;omega,(z.out.AJ ac.out fun q hq h=>((e.out.apart y.out).2.2 q (by rw[an.out,<- ad.out];exact h)).2.2.1).AJ bg fun q hq h=>by rw[show q=b from h];exact e.out.p8⟩
end

def R9 (ws:List BB):Nat->List Int->List Int
 |0=>fun _=>[]
 |j+1=>match ws[j]? with
  |some s=>if CX s then RV (R9 ws j) (AU s) (j:Int) else R9 ws j
  |none=>R9 ws j
section
variable {W W' w:Bc} {base m:Nat} {ws:List BB} {p:List Int} {k:Int}
theorem UT {j:Nat}:R9 ws (j+1)=match ws[j]? with
  |some s=>if CX s then RV (R9 ws j) (AU s) (j:Int) else R9 ws j
  |none=>R9 ws j:=rfl
theorem SG:∀ {j:Nat},k∈R9 ws j p↔∃ i:Nat,i<j/\k=(i:Int)/\∃ s,ws[i]?= some s/\CX s=true/\AU s=p
 |0=>by simp[R9]
 |j+1=>by
  have h:=SG (j:=j);have g:(∃ i:Nat,i<j+1/\k=(i:Int)/\∃ s,ws[i]?= some s/\CX s=true/\AU s=p)↔(∃ i:Nat,i<j/\k=(i:Int)/\∃ s,ws[i]?= some s/\CX s=true/\AU s=p)∨(k=(j:Int)/\∃ s,ws[j]?= some s/\CX s=true/\AU s=p):=by
   constructor
   ·rintro⟨i,f,a⟩;rcases Co i j with b|b
    ·exact .inl ⟨i,b,a⟩
    ·obtain rfl:i=j:=by omega
     exact .inr a
   ·rintro(⟨i,f,a⟩|a)
    ·exact⟨i,by omega,a⟩
    ·exact⟨j,by omega,a⟩
  rw[g,<- h,UT];rcases m:ws[j]? with _|s
  ·simp
  ·by_cases c:CX s=true
   ·simp only[c,if_true,RV];by_cases e:p=AU s
    ·subst e;simp[c]
    ·rw[Bg e];constructor
     ·exact .inl
     ·rintro(a|⟨_,l,b,_,d⟩)
      ·exact a
      ·cases b;exact Bv d.symm e
   ·simp only[Bool.not_eq_true] at c;simp only[c,CJ,if_false];constructor
    ·exact .inl
    ·rintro(a|⟨_,l,b,d,_⟩)
     ·exact a
     ·cases b;rw[c] at d;cases d
theorem SF:∀ {j:Nat} {p:List Int},(R9 ws j p).length<=j
 |0,_=>AY _
 |j+1,p=>by
  have a:=fun b=>SF (p:=b) (j:=j)
  rw[UT];rcases d:ws[j]? with _|c
  ·exact Gx (a p)
  ·dsimp only;split
   ·unfold RV;dsimp only;split
    ·rw[Ap];have:=a (AU c);simp only[BF,CV];omega
    ·exact Gx (a p)
   ·exact Gx (a p)
theorem UU {j:Nat} {s:BB} (a:ws[j]?= some s):R9 ws (j+1)=if CX s then RV (R9 ws j) (AU s) (j:Int) else R9 ws j:=by
 rw[R9,a]
def Mh (W:Bc) (base m:Nat) (ws:List BB):Prop:=∃ (e d:Nat) (b:List St) (a:List (List Int)),EG W base m (ws.length:Int) e d b/\QH a b (R9 ws ws.length)/\(∀ c∈ws,CX c=true->AU c∈a)/\a.length<=1+8*ws.length
theorem Mh.AB (e:Mh W base m ws) (h:Au W W'):Mh W' base m ws:=by
 obtain⟨d,c,b,a,f,g⟩:=e;exact⟨d,c,b,a,f.AB h,g⟩
theorem Mh.lt (a:Mh W base m ws):m<W.heap.size:=by
 obtain⟨f,e,d,c,b,g⟩:=a;exact b.lt.1
def kK (w wr:Bc) (ws:List BB) (e:Ending) (w':Bc):Prop:=∃ m,e= .returned (zP m)/\Mh w' w.heap.size m ws/\Au wr w'
theorem bA:∀ W:Bc,(Instr.makeSlice 453 (zI 1) (zI 1)).run Tryz.prog W= .ok (zS W.heap.size 0 1 1) (W.alloc (.cells #[.map none,zN] 460)):=fun W=>by kernel_rfl
theorem dS:QH [[]] [st0] (R9 ws 0):=by
 refine⟨rfl,by simp,rfl,fun c g d hx hq e h=>?_,fun c g d hx hq=>?_,fun d e a=>?_,fun d _=>rfl⟩
 ·have b:c=0:=by have:=(AC.1 hx).1;simp at this;omega
  subst b;cases hx;refine⟨fun a=>(by cases a),fun a=>?_⟩;have f:=Bn a;simp at f
 ·have b:c=0:=by have:=(AC.1 hx).1;simp at this;omega
  subst b;cases hx;rfl
 ·simp at a
theorem bG (A:Option Addr) (c:Nat) (w:Bc) (X:ws.length<=1000) (l:∀ s∈ws,s.size<=16) (Y:Ay Value.string w w.heap.size 1 A ws) :
  Calls Tryz.prog 300 #[.slice A ws.length c] w (kK w w ws):=by
 have ap:=bA w;have ah:=Lh Y;have ai:=Lh l;obtain⟨d,K⟩:∃ d,d=ws.length:=⟨_,rfl⟩
 have r:=Lh K;have ad:=Lh X;rw[<- K];clear Y l X K;go_in;go_upto_region 2 with(fail)
 clear ap;have g:Hid (EG ((w.alloc (.cells #[.map none,zN] 460)).alloc (.cells #[zS w.heap.size 0 1 1,zI d] 455)) w.heap.size (w.heap.size+1) (d:Int) w.heap.size 1 [st0]):=by
  have aq:=(Qg (size:=2) (n:=1) (AX.new w 460 #[.map none,zN]) (AY _) rfl (by unfold maxLen;decide)).alloc (.cells #[zS w.heap.size 0 1 1,zI d] 455);refine Lh ⟨by omega,AX.at_ _ _ (by simp),aq,fun bc s f=>?_,fun bc s f=>?_,fun bc b a I bd j ao x h=>?_,fun bc b a I bd j ao x h=>?_⟩
  ·have:=Bn f;rw[Ai] at this;exact .inl (by rw[this];exact⟨rfl,fun _=>rfl⟩)
  ·have:=Bn f;rw[Ai] at this;rw[this];exact World.ownsRow_nil _ _ _ _
  ·have:=Bn bd;rw[Ai] at this;rw[this] at h;cases h
  ·have:=Bn bd;rw[Ai] at this;rw[this] at h;cases h
 have e:Hid (Au w ((w.alloc (.cells #[.map none,zN] 460)).alloc (.cells #[zS w.heap.size 0 1 1,zI d] 455))):=Lh (((Aa _ w).alloc _).alloc _);obtain⟨m,i⟩:∃ m,m=w.heap.size+1:=⟨_,rfl⟩
 generalize (w.alloc (.cells #[.map none,zN] 460)).alloc (.cells #[zS w.heap.size 0 1 1,zI d] 455)=bb at g e ⊢;rw[<- i] at g ⊢;clear i;go_wp2;go_loopg [13] d fun gk bc wr=>∃ (b C B:Nat) (u:List St) (t:List (List Int)),b+gk=d/\bc=zI b/\Hid (EG wr w.heap.size m (d:Int) C B u)/\Hid (QH t u (R9 ws b))/\Hid (∀ bc s,bc<b->ws[bc]?= some s->CX s=true->AU s∈t)/\Hid (t.length<=1+8*b)/\Hid (Au w wr)
 case atStart=>exact⟨0,_,_,_,[[]],by omega,rfl,g,Lh dS,Lh fun bc s f=>by omega,Lh (by simp),e⟩
 case round =>
  obtain⟨b,C,B,u,t,ay,rfl,g,H,G,z,e⟩:=hrel;by_cases az:b<d
  ·have D:b<ws.length:=by have:=r.out;omega
   obtain⟨I,o,rfl,S,J⟩:=Ay.BV (V:=Value.string) (fun _=>rfl) ah.out D;obtain⟨s,l⟩:∃ s,s=ws[b]:=⟨_,rfl⟩
   have F:Hid (ws[b]?= some s):=Lh (by rw[l];exact Ah D);have Z:=ai.out s (by rw[l];exact Br D);rw[<- l] at J;have ax:=(e.out.cell (p:=zA I (o+b)) S id).trans J;have v:=Lh fun W=>Jk s W (by omega)
   have aj:=Lh Z;have ar:(b:Int)<(d:Int):=by omega
   have ba:(d:Int)<=1000:=by have:=ad.out;have:=r.out;omega
   clear l J S Z D;have be:∀ bc n,bc<b+1->ws[bc]?= some n->bc<b∨n=s:=fun bc n bd j=>by
    rcases Co bc b with f|f
    ·exact .inl f
    ·obtain rfl:bc=b:=by omega
     rw[F.out] at j;cases j;exact .inr rfl
   replace be:=Lh be;rcases i:CX s with _|_
   ·rw[i] at v;have y:=Lh i;clear i;go_wp2_with (go_at_call 103;refine(v.out _).mono ?_;rintro M E ⟨rfl,L,hq⟩;have q:Au wr E:=(by subst hq;exact(Aa _ wr).drewN L);clear hq;replace g:=Lh (g.out.AB q);replace e:=Lh (e.out.to q);clear q);go_roundg (gk-1)
    case measure=>omega
    case rel=>exact⟨b+1,C,B,u,t,by omega,by go_num,g,Lh (by rw[UU F.out,y.out];exact H.out),Lh fun bc n bd j h=>by rcases be.out bc n bd j with f|rfl;(exact G.out bc n f j h);(rw[y.out] at h;cases h),Lh (by have:=z.out;omega),e⟩
   ·rw[i] at v;have y:=Lh i;clear i;go_wp2_with (first
     |(go_at_call 103;refine(v.out _).mono ?_;rintro M E ⟨rfl,L,hq⟩;have q:Au wr E:=(by subst hq;exact(Aa _ wr).drewN L);clear hq;replace g:=Lh (g.out.AB q);replace e:=Lh (e.out.to q);clear q)
     |(go_at_call 303;refine(bH (b:Int) s E g.out H.out aj.out e.out.size (by have:=z.out;omega) fun p=>AV SF (by omega)).mono ?_;rintro M av ⟨an,am,P2,ak,rfl,P,Q,U,N,O,R⟩;have af:=Lh P;have ag:=Lh Q;have ab:=Lh U;have aa:=Lh N;have ae:=Lh O;have ac:Hid (Au w av):=Lh (e.out.AJ R fun k q f=>by omega);clear P Q U N O R))
    go_roundg (gk-1)
    case measure=>omega
    case rel=>exact⟨b+1,an,am,ak,P2,by omega,by go_num,af,Lh (by rw[UU F.out,y.out];exact ag.out),Lh fun bc n bd j h=>by rcases be.out bc n bd j with f|rfl;(exact aa.out _ (G.out bc n f j h));(exact ab.out),Lh (by have:=z.out;have:=ae.out;omega),ac⟩
  ·have ar:¬(b:Int)<(d:Int):=by omega
   go_wp2;go_ret;obtain rfl:b=d:=by omega
   refine⟨m,rfl,⟨C,B,u,t,by rw[<- r.out];exact g.out,by rw[<- r.out];exact H.out,fun s l i=>?_,by rw[<- r.out];exact z.out⟩,e.out⟩;obtain⟨bc,T⟩:=Dh.1 l;exact G.out bc s (by have:=(AC.1 T).1;have:=r.out;omega) T i
end

end Go.Proofs.YtcjcndnjpedniaaGreat
