/- A part of the proof of TopUsers. -/
import Derived.Test.YtcjcndnjpedniaaGreatB32
namespace Go.Proofs.YtcjcndnjpedniaaGreat
set_option linter.all false
set_option maxRecDepth 100000
set_option maxHeartbeats 8000000
open Go.RowKit
section
variable {R:List Dj} {C L:List Ca} {acc:List Nat} {u ch ans:Int} {v f s:BB} {i b:Nat} {r:Dj} {c:Ca}
theorem at_one (a:Ey u):AU (C8 [u])=[u]:=Pp (by intro b hx;rw[Ai.1 hx];exact a)
theorem Ea {a:Int} (d:Ey u) (ha:Ey a) (c:C8 [u]=C8 [a]):u=a:=by
 have b:=Bu AU c;rw[at_one d,at_one ha] at b;injection b
theorem N8 (d:CX f=true) (g:v.size%2=0) (l:(AU v).length<=(AU f).length) (b:FI v f i=true):i=0/\f=v:=by
 obtain⟨c,j,_,_⟩:=GR.1 d;have h:=Eo (s:=f);have k:=Md b;have e:i=0:=by omega
 subst e;refine⟨rfl,?_⟩;have a:=of_decide_eq_true b;rw[List.drop_zero,Bt (by omega)] at a;rw[<- Js c,<- a,Js g]
theorem UK (f:CX v=true) (a:EA r=true) (c:r.BX=v):Zb v 0 r=r.Kn:=by
 have e:FI v r.BX 0=true:=by unfold FI;rw[c];simp
 obtain⟨_,d,b⟩:=Qx f a e;rw[Ei,BU,c,Bz,List.drop_length,Dc] at b;have ht:CX r.Kn=true:=by unfold EA at a;simp only[De] at a;exact a.2.1
 rw[<- Js (GR.1 d).1,b,Js (GR.1 ht).1]
theorem Lb (d:CX v=true) (c:r∈R) (a:EA r=true) (b:r.BX=v):J5 R v r.Kn :=
 ⟨r,c,a,0,by unfold FI;rw[b];simp,(UK d a b).symm⟩
theorem Ql (j:Ey u) (d:∀ r∈R,r.BX≠C8 [u]) (e:Fv R (C8 [u]) v):v=C8 [u] :=
 e (fun s=>s=C8 [u]) rfl fun k b ha g=>by
  obtain⟨r,f,a,i,h,_⟩:=g;subst ha;have c:CX r.BX=true:=by unfold EA at a;simp only[De] at a;exact a.1
  have m:=(GR.1 c).2.1;have l:=Eo (s:=r.BX);exact Bv (N8 c (by rw[FD];simp) (by rw[at_one j];simp;omega) h).2 (d r f)
theorem Om (h:Ey u) (j:KM FW C acc) (g:∀ r∈FW,r.BX≠C8 [u]) (k:∀ c∈C,c.Aq≠u) (v:∀ c∈C,Ey c.Aq):∀ q,∀ r∈Cz FW C (acc.take q),r.BX≠C8 [u]
 |0,r,e=>by
  rcases Jt e with b|⟨i,d,_⟩
  ·exact g r b
  ·simp at d
 |q+1,r,e=>by
  rcases Jt e with b|⟨i,d,c,m,t⟩
  ·exact g r b
  ·obtain⟨p,o,s⟩:=List.mem_iff_getElem.1 d;have D:p<q+1:=Bj o (List.length_take_le _ _);have y:p<acc.length:=Bj o (List.length_take_le' _ _);rw[List.getElem_take] at s;have z:acc[p]?= some i:=by rw[Ah y,s]
   obtain⟨B,l,w⟩:=j.back p i z;rw[m] at l;cases l;have n:=Bn m;unfold Gr at t;obtain⟨f,x,rfl⟩:=Bp.1 t;intro a;have a:f=C8 [u]:=a;subst a;have A:=Om h j g k v p;exact k c n (Ea (v c n) h (Ql h A (w _ x)))
 termination_by q=>q
 decreasing_by omega
theorem Xp (h:RD FW C [C8 [u]] [C8 [ch]] b ans) (d:Ey u) (e:Ey ch) (g:u≠ch) (k:∀ r∈FW,r.BX≠C8 [u]) (j:∀ c∈C,c.Aq≠u) (l:∀ c∈C,Ey c.Aq):ans≠1:=by
 rcases h with⟨a,_⟩|⟨_,⟨acc,a,_,hF⟩|⟨a,_⟩⟩
 ·exact Bv (Ea d e (Ai.1 (Ju.1 a _ (by simp)))) g
 ·rcases hF with⟨_,hF⟩|⟨a,_⟩|⟨a,_⟩
  ·obtain⟨v,m,i⟩:=hF _ (Ai.2 rfl);have f:=Om d a k j l acc.length;rw[Cr] at f;have:=Ql d f i;rw[Ai.1 m] at this;exact Bv (Ea e d this).symm g
  ·omega
  ·omega
 ·omega
theorem MF (b:i∈acc) (a:C[i]?= some c) (d:r∈Gr c):r∈Cz FW C acc:=by
 unfold Cz;exact Bd.2 (.inr (List.mem_flatMap.2 ⟨i,b,by rw[a];exact d⟩))
theorem Ip (a:Ey u) (b:u≠0):CX (C8 [u])=true:=GR.2 ⟨by rw[FD];simp,by rw[Eo,at_one a];simp,by rw[Eo,at_one a];simp,by rw[at_one a];unfold EX;simpa using b⟩
theorem counts_of {f t:BB} (a:CX f=true) (ht:CX t=true) (b:Cc t<=Cc f):EA ⟨f,t⟩=true:=by
 unfold EA;rw[a,ht,BH b];rfl
theorem Vp (n:RD FW C [C8 [u]] [C8 [ch]] b ans) (d:Ey u) (g:Ey ch) (f:u≠0) (m:ch≠0) (p:c∈C) (e:c.Bl=[C8 [u]]) (k:c.Aq=u) (l:c.Ad=C8 [ch]):ans≠0:=by
 rcases n with⟨_,a⟩|⟨_,⟨acc,a,o,hF⟩|⟨a,_⟩⟩
 ·omega
 ·obtain⟨i,h⟩:=Dh.1 p;have q:i∈acc:=by
   apply Classical.byContradiction;intro r;exact o i c h r fun v j=>by rw[e] at j;rw[Ai.1 j,k];exact Fv.refl
  rcases hF with⟨a,_⟩|⟨_,t,hx,hF⟩|⟨a,_⟩
  ·omega
  ·rw[Ai.1 hx] at hF;have s:(⟨C8 [u],C8 [ch]⟩:Dj)∈Cz FW C acc:=MF q h (by unfold Gr;rw[e,l];simp);exact Bv (Fv.refl.step (Lb (Ip d f) s (counts_of (Ip d f) (Ip g m) (by rw[Eo,Eo,at_one d,at_one g];simp)) rfl)) (hF _ (Ai.2 rfl))
  ·omega
 ·omega
def Eu (i:Int):BB:=C8 [24577+i,40961]
def Dx (i:Int) (t bt:Int):Ca:=⟨1,8193+i,C8 [8292+50*i+bt],[Eu i],t,4611686018427387904,bt⟩
theorem Iw (a:0<=u) (b:u<=2):AU (Eu u)=[24577+u,40961]:=Pp (by intro c hx;simp only[BI,CW,or_false] at hx;unfold Ey;rcases hx with rfl|rfl<;>omega)
theorem IM (a:0<=u) (b:u<=2):CX (Eu u)=true:=GR.2 ⟨by unfold Eu;rw[FD];simp,by rw[Eo,Iw a b];simp,by rw[Eo,Iw a b];simp,by rw[Iw a b];unfold EX;simp;omega⟩
theorem bJ {a:Int} (f:0<=u) (g:u<=2) (c:0<=a) (d:a<=2) (e:Eu u=Eu a):u=a:=by
 have b:=Bu AU e;rw[Iw f g,Iw c d] at b;injection b with b _;omega
theorem NR:r∈FW↔r=⟨Eu 0,C8 [8193]⟩∨r=⟨Eu 1,C8 [8194]⟩∨r=⟨Eu 2,C8 [8195]⟩:=by
 unfold FW Eu;simp
theorem Lu {t:Int} (a:0<=u) (b:u<=2) (ht:Ey t) (c:t≠0):EA ⟨Eu u,C8 [t]⟩=true:=counts_of (IM a b) (Ip ht c) (by rw[Eo,Eo,Iw a b,at_one ht];simp)
theorem Zv (x:Ca) (o:x.Bl=[Eu 0]) (S:x.Aq=8293) (F:x.Ad=C8 [ch]) (z:Ey ch) (I:ch≠0) (J:RD FW C [Eu 0] [C8 [ch]] 200 ans) (hC:∀ c∈C,c=Dx 0 0 1∨c=Dx 1 0 1∨c=x) (T:Dx 0 0 1∈C) (U:x∈C):ans=1:=by
 have w:∀ acc,∀ r∈Cz FW C acc,(r.BX=Eu 0/\(r.Kn=C8 [8193]∨r.Kn=C8 [8293]∨r.Kn=C8 [ch]))∨(r.BX=Eu 1/\(r.Kn=C8 [8194]∨r.Kn=C8 [8343]))∨r.BX=Eu 2:=fun acc r n=>by
  rcases Jt n with b|⟨i,_,c,d,b⟩
  ·rcases NR.1 b with rfl|rfl|rfl
   ·exact .inl ⟨rfl,.inl rfl⟩
   ·exact .inr (.inl ⟨rfl,.inl rfl⟩)
   ·exact .inr (.inr rfl)
  ·unfold Gr at b;obtain⟨f,e,rfl⟩:=Bp.1 b;rcases hC c (Bn d) with rfl|rfl|rfl
   ·rw[Ai.1 e];exact .inl ⟨rfl,.inr (.inl rfl)⟩
   ·rw[Ai.1 e];exact .inr (.inl ⟨rfl,.inr rfl⟩)
   ·rw[o] at e;rw[Ai.1 e];exact .inl ⟨rfl,.inr (.inr F)⟩
 have E:∀ acc s,s=Eu 0∨s=Eu 1->¬JK (Cz FW C acc) s 200:=fun acc s h=>by
  refine bO (C:=[Eu 0,Eu 1,C8 [8193],C8 [8293],C8 [ch],C8 [8194],C8 [8343]]) ?_ (fun v g u k=>?_) (by simp)
  ·rcases h with rfl|rfl<;>simp
  ·obtain⟨r,n,d,i,k,rfl⟩:=k;have K:CX r.BX=true:=by unfold EA at d;simp only[De] at d;exact d.1
   have D:(AU r.BX).length=2:=by
    rcases w acc r n with⟨a,_⟩|⟨a,_⟩|a<;>rw[a,Iw (by omega) (by omega)]<;>rfl
   have j:∀ t:Int,Ey t->v≠C8 [t]:=fun t ht a=>by
    rw[a,MJ (by omega) (by rw[at_one ht,D];simp)] at k;cases k
   have R:∃ l:Int,0<=l/\l<=1/\v=Eu l:=by
    simp only[BI,CW,or_false] at g;rcases g with a|a|a|a|a|a|a
    ·exact⟨0,by omega,by omega,a⟩
    ·exact⟨1,by omega,by omega,a⟩
    ·exact Bv a (j _ ⟨by omega,by omega⟩)
    ·exact Bv a (j _ ⟨by omega,by omega⟩)
    ·exact Bv a (j _ z)
    ·exact Bv a (j _ ⟨by omega,by omega⟩)
    ·exact Bv a (j _ ⟨by omega,by omega⟩)
   obtain⟨l,m,W,rfl⟩:=R;obtain⟨rfl,e⟩:=N8 K (GR.1 (IM m (by omega))).1 (by rw[Iw m (by omega),D];simp) k;rw[UK (IM m (by omega)) d e];rcases w acc r n with⟨_,b⟩|⟨_,b⟩|a
   ·rcases b with b|b|b<;>rw[b]<;>simp
   ·rcases b with b|b<;>rw[b]<;>simp
   ·have:=bJ m (by omega) (by omega) (by omega) (e.symm.trans a);omega
 rcases J with⟨_,b⟩|⟨_,⟨acc,b,y,hF⟩|⟨_,acc,i,c,s,b,d,h,N⟩⟩
 ·exact b
 ·rcases hF with⟨b,_⟩|⟨_,V,q,hF⟩|⟨_,V,q,hF⟩
  ·exact b
  ·exfalso;rw[Ai.1 q] at hF;have O:(⟨Eu 0,C8 [8193]⟩:Dj)∈Cz FW C acc:=by
    unfold Cz;exact Bd.2 (.inl (NR.2 (.inl rfl)))
   obtain⟨G,A⟩:=Dh.1 T;have L:G∈acc:=by
    apply Classical.byContradiction;intro p;refine y G _ A p fun v g=>?_
    rw[show v=Eu 0 from Ai.1 g];exact Fv.refl.step (Lb (IM (by omega) (by omega)) O (Lu (by omega) (by omega) ⟨by omega,by omega⟩ (by omega)) rfl)
   have P:(⟨Eu 0,C8 [8293]⟩:Dj)∈Cz FW C acc:=MF L A (by unfold Gr Dx;simp);obtain⟨H,B⟩:=Dh.1 U;have M:H∈acc:=by
    apply Classical.byContradiction;intro p;refine y H _ B p fun v g=>?_
    rw[o] at g;rw[show v=Eu 0 from Ai.1 g,S];exact Fv.refl.step (Lb (IM (by omega) (by omega)) P (Lu (by omega) (by omega) ⟨by omega,by omega⟩ (by omega)) rfl)
   have Q:(⟨Eu 0,C8 [ch]⟩:Dj)∈Cz FW C acc:=MF M B (by unfold Gr;rw[o,F];simp);exact hF _ (Ai.2 rfl) (Fv.refl.step (Lb (IM (by omega) (by omega)) Q (Lu (by omega) (by omega) z I) rfl))
  ·exact Bv hF (E acc _ (.inl (Ai.1 q)))
 ·refine Bv N (E acc _ ?_);rcases hC c (Bn d) with rfl|rfl|rfl
  ·exact .inl (Ai.1 h)
  ·exact .inr (Ai.1 h)
  ·rw[o] at h;exact .inl (Ai.1 h)
theorem Uq {s t:List UInt8}:∀ (a b:Nat),BL a++s=BL b++t->a=b/\s=t:=fun a=>by
 induction a using Nat.strongRecOn with
 |_ a n =>
  intro b e;obtain⟨q,o,hx,r,g,h⟩:=LY a;obtain⟨u,p,m,v,i,j⟩:=LY b;rw[hx,m,Df,Df] at e;injection e with l f;subst l;by_cases ha:a<128
  ·by_cases c:b<128
   ·obtain⟨k,rfl⟩:=g ha;obtain⟨d,rfl⟩:=i c;exact⟨by omega,f⟩
   ·have:=(g ha).1;have:=(j c).1;omega
  ·by_cases c:b<128
   ·have:=(h ha).1;have:=(i c).1;omega
   ·obtain⟨_,rfl⟩:=h ha;obtain⟨_,rfl⟩:=j c;obtain⟨k,d⟩:=n (a/128) (by omega) _ f;exact⟨by omega,d⟩
theorem RJ {c d:Ca} (f:Cn c) (g:Cn d) (b:Dy (Db c)=Dy (Db d)):c.Aq=d.Aq:=by
 have a:Db c=Db d:=by
  have:=Bu (fun s:BB=>s.data.toList) b;simpa [Dy] using this
 unfold Db at a;simp only[BJ] at a;obtain⟨_,e⟩:=Uq _ _ a;obtain⟨h,_⟩:=Uq _ _ e;have:=f.su.1;have:=g.su.1;omega
theorem SY {L:List Ca} {c d:Ca} (a:d∈Jw L c):d∈L∨d=c:=by
 unfold Jw at a;split at a
 ·exact .inl a
 ·simpa using a
theorem Pm {L:List Ca} {c:Ca} (g:Cn c) (f:∀ d∈L,Cn d) (e:∀ d∈L,d.Aq≠c.Aq):Jw L c=L++[c]:=by
 unfold Jw;rw[Bg];rw[F6];rintro⟨d,a,b⟩;exact e d a (RJ (f d a) g (of_decide_eq_true b))
theorem gD {L:List Ca} {c:Ca}:(Jw L c).length<=L.length+1:=by
 unfold Jw;split<;>simp
end

section
variable {a i t bt:Int}
theorem gJ (b:Ey a):G6 (C8 [a]) 0=a:=by rw[at_eq,at_one b];rfl
theorem Nk (b:Ey a):Cc (C8 [a])=1:=by rw[Eo,at_one b];rfl
theorem QI {c:List Int} (b:Ey a) (hk:a/8192∈c):Ev (C8 [a]) c=true:=by
 unfold Ev;rw[Nk b,gJ b,BH ⟨rfl,hk⟩]
theorem PR (a:0<=i) (b:i<=2):Cc (Eu i)=2:=by rw[Eo,Iw a b];rfl
theorem Lt (b:0<=i) (c:i<=2) (j:0<=t) (m:t<=1000) (k:1<=bt) (l:bt<=40):Cn (Dx i t bt):=by
 have e:Ey (8292+50*i+bt):=⟨by omega,by omega⟩
 refine⟨by show(1:Int)<=1;omega,by show(1:Int)<=7;omega,⟨by show 0<=8193+i;omega,by show 8193+i<=65535;omega⟩,by show(8193+i)/8192=1;omega,Ip e (by omega),IU (IM b c),by show(C8 [_]).size<=16;rw[FD];simp,fun f d=>?_,j,by show t<=4611686018427387904;omega,by show(4611686018427387904:Int)<=4611686018427387904;omega,by show 0<=bt;omega,by show bt<=4611686018427387904;omega,fun f d=>?_,.inr (.inr ⟨by show(1:Int)<=1;omega,by show(1:Int)<=5;omega,Eu i,rfl,?_⟩)⟩
 ·rw[show f=Eu i from Ai.1 d];unfold Eu;rw[FD];simp
 ·rw[show f=Eu i from Ai.1 d,PR b c];show Cc (C8 [_])<=2;rw[Nk e];omega
 ·have g:G6 (Eu i) 0=24577+i:=by rw[at_eq,Iw b c];rfl
  have h:G6 (Eu i) 1=40961:=by rw[at_eq,Iw b c];rfl
  exact⟨fun _=>⟨QI e (by rw[Ai];omega),PR b c,by rw[g];omega,by rw[h];omega⟩,fun a=>Bv (show(1:Int)=2 from a) (by omega),fun a=>Bv (show(1:Int)=3 from a) (by omega),fun a=>Bv (show(1:Int)=4 from a) (by omega),fun a=>Bv (show(1:Int)=5 from a) (by omega)⟩
def Mq (u ch:Int):Ca:=⟨6,u,C8 [ch],[C8 [u]],0,5,0⟩
theorem eT {u ch:Int} (b:Ey u) (hk:u/8192=1) (d:Ey ch) (e:ch≠0):Cn (Mq u ch):=by
 refine⟨by show(1:Int)<=6;omega,by show(6:Int)<=7;omega,b,hk,Ip d e,IU (Ip b (by omega)),by show(C8 [_]).size<=16;rw[FD];simp,fun c a=>?_,by show(0:Int)<=0;omega,by show(0:Int)<=5;omega,by show(5:Int)<=4611686018427387904;omega,by show(0:Int)<=0;omega,by show(0:Int)<=4611686018427387904;omega,fun c a=>?_,.inl rfl⟩
 ·rw[show c=C8 [u] from Ai.1 a,FD];simp
 ·rw[show c=C8 [u] from Ai.1 a,Nk b];show Cc (C8 [_])<=1;rw[Nk d];omega
theorem Tv {d:Fb} {ch nd bt:Int} (hk:d.key/8192=1) (i:Ey d.key) (b:Ey ch) (n:ch/8192=2) (f:0<=d.num) (g:d.num<=2) (h:0<=d.Kh) (m:d.Kh<=1000) (o:0<=nd) (p:nd<=2) (k:0<=bt) (l:bt<=40):Cn (He d ch nd bt):=by
 have j:ch≠0:=by omega
 refine⟨by show(1:Int)<=3;omega,by show(3:Int)<=7;omega,i,hk,Ip b j,IU (IM f g),by show(C8 [_]).size<=16;rw[FD];simp,fun e c=>?_,h,by show d.Kh<=4611686018427387904;omega,by show(4611686018427387904:Int)<=4611686018427387904;omega,by show 0<=3*bt+nd;omega,by show 3*bt+nd<=4611686018427387904;omega,fun e c=>?_,.inr (.inr ⟨by show(1:Int)<=3;omega,by show(3:Int)<=5;omega,Eu d.num,rfl,?_⟩)⟩
 ·rw[show e=Eu d.num from Ai.1 c];unfold Eu;rw[FD];simp
 ·rw[show e=Eu d.num from Ai.1 c,PR f g];show Cc (C8 [_])<=2;rw[Nk b];omega
 ·exact⟨fun a=>Bv (show(3:Int)=1 from a) (by omega),fun a=>Bv (show(3:Int)=2 from a) (by omega),fun _=>QI b (by rw[Ai];omega),fun a=>Bv (show(3:Int)=4 from a) (by omega),fun a=>Bv (show(3:Int)=5 from a) (by omega)⟩
theorem KZ {boot:Int} {x:DZ} (g:boot<=127) (j:x.value<=1000000) (h:x.version<=1000000) (i:x.op<8) (k:x.who.size<=16):(FM boot (some x)).length<=32:=by
 have a:=IQ 0 boot.toNat (by simp;omega);have b:=IQ 0 1 (by simp);have c:=IQ 2 x.value.toNat (by simp;omega);have d:=IQ 2 x.version.toNat (by simp;omega);have e:=IQ 0 x.op.toNat (by simp;omega);have f:(JY [x.who]).length<=18:=by
  unfold JY GH;have:x.who.data.toList.length=x.who.size:=rfl;simp;omega
 unfold FM iR;simp only[Ap];omega
theorem Oc {boot:Int} (c:boot<=127):(FM boot none).length<=32:=by
 have a:=IQ 0 boot.toNat (by simp;omega);have b:=IQ 0 0 (by simp);unfold FM;rw[Ap];omega
end

theorem dG:∀ x,∀ u∈(QD x).cells.toList,u.oneCell'=true:=fun x u a=>by
 have:(QD x).cells.toList=[zU x.1,zI x.2.1,zI x.2.2.1,zI x.2.2.2]:=rfl;rw[this] at a;simp only[BI,CW,or_false] at a;rcases a with rfl|rfl|rfl|rfl<;>rfl
theorem aS:∀ x,∀ u∈(VR x).cells.toList,u.oneCell'=true:=fun x u a=>by
 have:(VR x).cells.toList=[zI x.1,zI x.2.1,.string x.2.2]:=rfl;rw[this] at a;simp only[BI,CW,or_false] at a;rcases a with rfl|rfl|rfl<;>rfl
theorem Wn (a:Addr) (c n:Nat) (l:List (Int × Int × Int × Int)) (w:Bc) (p:l.length=n) (z:n<=100000) (i:Ay QD w w.heap.size 4 (some a) l) :
  Calls Tryz.prog 39 #[.slice (some a) n c] w fun e w'=>∃ d f,e= .returned (.slice d n f)/\w'.ownsRow w.heap.size 74 4 (.slice d n f) n (BN QD l)/\Au w w':=by
 subst p;obtain⟨v,o,s,t,u⟩:=info_parts Rc;have hq:=fun W=>Lib.run_eql_slice_nil (P:=Tryz.prog) W 56 74 (some a) l.length c 0 0 Tryz.underlying56
 have g:=IG w w.heap.size 74 4 (AY _);have q:=i.below (w':=w.alloc (.cells #[] 74)) fun j h=>Below.heap_alloc w _ j h
 have r:w.heap.size<=(w.alloc (.cells #[] 74)).heap.size:=by simp
 clear i;go_in;go_wp2_with (at_builtin;refine ER (V:=QD) rfl (.tmp 5) (.tmp 6) 56 rfl w.heap.size 74 v _ 4 32 Tryz.underlying56 o s t u rfl (by omega) (fun _=>rfl) dG _ _ _ rfl g _ (some a) _ c l rfl rfl q (by unfold maxLen;omega) (by omega) r ?_;intro A B b m;rw[Bz,BU] at b;obtain⟨x,y,rfl⟩:=BD b);go_ret;exact⟨_,_,rfl,b,((Aa _ w).alloc _).grown m fun j k h=>by have:=BQ g k;omega⟩
theorem VL (a:Addr) (c n:Nat) (l:List (Int × Int × BB)) (w:Bc) (p:l.length=n) (z:n<=100000) (g:Ay VR w w.heap.size 3 (some a) l) :
  Calls Tryz.prog 68 #[.slice (some a) n c] w fun e w'=>∃ i j,e= .returned (.slice i n j)/\Au w w':=by
 subst p;obtain⟨v,o,s,t,u⟩:=info_parts kS;have hq:=fun W=>Lib.run_eql_slice_nil (P:=Tryz.prog) W 89 107 (some a) l.length c 0 0 Tryz.underlying89
 have d:=IG w w.heap.size 107 3 (AY _);have q:=g.below (w':=w.alloc (.cells #[] 107)) fun h f=>Below.heap_alloc w _ h f
 have r:w.heap.size<=(w.alloc (.cells #[] 107)).heap.size:=by simp
 clear g;go_in;go_wp2_with (at_builtin;refine ER (V:=VR) rfl (.tmp 5) (.tmp 6) 89 rfl w.heap.size 107 v _ 3 32 Tryz.underlying89 o s t u rfl (by omega) (fun _=>rfl) aS _ _ _ rfl d _ (some a) _ c l rfl rfl q (by unfold maxLen;omega) (by omega) r ?_;intro A B b m;rw[Bz,BU] at b;obtain⟨x,y,rfl⟩:=BD b);go_ret;exact⟨_,_,rfl,((Aa _ w).alloc _).grown m fun h k f=>by have:=BQ d k;omega⟩
theorem VM (w:Bc):Calls Tryz.prog 68 #[zN] w (Rt (zN) fun w'=>w=w'):=by
 have hq:=fun W=>Lib.run_eql_slice_nil (P:=Tryz.prog) W 89 107 none 0 0 0 0 Tryz.underlying89
 go_in;go_wp2;go_ret;exact⟨rfl,rfl⟩
section
variable {w w' W:Bc} {cs:List Eb} {o:Nat->Nat} {d:Fb} {wd:GL} {j:Nat}
theorem Oz (i:ED cs w o) (n:cs[j]?= some (Dv d)) (k:0<d.R.length) (s:d.R.length<=1000) :
  Calls Tryz.prog 13 #[.pointer (some (zA d.nb 3))] w fun e w'=>∃ c b,e= .returned (.slice c d.R.length b)/\w'.ownsRow w.heap.size 74 4 (.slice c d.R.length b) d.R.length (BN QD d.R)/\Au w w':=by
 obtain⟨A,z,y,B,a⟩:=i.node n;obtain⟨h,g,rfl,v⟩:=J9 a.rr.1 k;have p:=Ay.Hu (V:=QD) (xs:=d.R) (size:=4) (fun _=>rfl) a.rr.1;have t:Cl w d.nb 13 (zS h 0 d.R.length g):=a.BR.cell 13;have f:=Lh (Wn (zA h 0) g d.R.length d.R w rfl (by omega) p);clear p a i n;generalize d.R.length=x at f t k s ⊢;go_in;go_wp2_with (go_at_call 39;refine f.out.mono ?_;rintro e C ⟨u,b,rfl,l,m⟩;have r:=Lh l;have q:=Lh m;clear l m);go_ret;exact⟨_,_,rfl,r.out,q.out⟩
theorem Kj (k:ED cs w o) (n:cs[j]?= some (Dr wd)) (u:wd.L.length<=1000) :
  Calls Tryz.prog 38 #[zP wd.wb] w fun e w'=>∃ d f,e= .returned (.slice d wd.L.length f)/\Au w w':=by
 obtain⟨C,l,x,a⟩:=k.p j _ n;have a:=a.1;obtain⟨g,b,rfl⟩:=BD a;have p:=Ay.Hu (V:=VR) (xs:=wd.L) (size:=3) (fun _=>rfl) a;have v:Cl w wd.wb 10 (.slice g wd.L.length b):=l.cell 10;have i:Hid (Calls Tryz.prog 68 #[.slice g wd.L.length b] w fun e w'=>∃ d f,e= .returned (.slice d wd.L.length f)/\Au w w'):=Lh (by
  rcases g with _|r
  ·have h:wd.L.length=0/\b=0:=by
    rcases a.2 with⟨c,h⟩|⟨A,y,z,c,_⟩
    ·have c:Value.slice none wd.L.length b=zN:=c;injection c with _ s t;exact⟨s,t⟩
    ·cases c
   rw[h.1,h.2];refine(VM w).mono ?_;rintro e w' ⟨rfl,rfl⟩;exact⟨_,_,rfl,Aa _ _⟩
  ·exact VL r b _ wd.L w rfl (by omega) p)
 clear p a l k n x;generalize wd.L.length=B at i v u ⊢;go_in;go_wp2_with (go_at_call 68;refine i.out.mono ?_;rintro e D ⟨d,f,rfl,m⟩;have q:=Lh m;clear m);go_ret;exact⟨_,_,rfl,q.out⟩
end

theorem Sg (op:Int) (a:Addr) (k n:Nat) (y:List BB) (w:Bc) (N:y.length=n) (R:n<=100) (F:Ay Value.string w w.heap.size 1 (some a) y):Calls Tryz.prog 95 #[.agg #[zI op,.slice (some a) n k]] w fun e w'=>∃ A P,e= .returned (.agg #[zI op,.slice A n P])/\Au w w':=by
 have c:Hid (AX (w.alloc (.cells #[zI op,.slice (some a) n k] 40)) w.heap.size 40 #[zI op,.slice (some a) n k]):=Lh (AX.new w _ _);have h:Hid (Au w (w.alloc (.cells #[zI op,.slice (some a) n k] 40))):=Lh ((Aa _ w).alloc _);have z:=Lh fun i (d:Au w i)=>JG a k y i (by omega) (F.AB d)
 rw[N] at z;clear F;go_in;go_upto_region 1 with(fail)
 obtain⟨j,m⟩:∃ g,g=w.heap.size:=⟨_,rfl⟩
 have u:j+1=(w.alloc (.cells #[zI op,.slice (some a) n k] 40)).heap.size:=by simp[m]
 generalize w.alloc (.cells #[zI op,.slice (some a) n k] 40)=o at c h u ⊢;have q:Hid (AX (o.alloc (.cells #[zO,zN] 40)) o.heap.size 40 #[zO,zN]):=Lh (AX.new o _ _);replace c:=Lh (c.out.alloc (.cells #[zO,zN] 40));replace h:=Lh (h.out.alloc (.cells #[zO,zN] 40));rw[<- u] at q;rw[<- m] at c ⊢;generalize o.alloc (.cells #[zO,zN] 40)=x at c q h ⊢;have K:=Lh m;clear u m;have G:Cl x j 0 (zI op):=c.out.cell 0;have H:Cl x j 1 (.slice (some a) n k):=c.out.cell 1;refine GZ (fun i=>Cl i j 0 (zI op)/\Cl i j 1 (.slice (some a) n k)) ⟨G,H⟩ fun b=>?_
 have B:=Lh c.out.drew;have C:=Lh q.out.drew;have r:=Lh h.out.drew;clear G H;generalize x.drew=S at B C r b ⊢;refine hq 0 3 b ?_;refine hq 1 4 b ?_;refine hq 2 5 b ?_;refine hq 3 6 b ?_;refine Gg 4 fun s d=>?_
 go_simp;refine(z.out _ r.out).mono ?_;rintro e T ⟨I,Q,rfl,_,l⟩;have f:=Lh (B.out.Ab l id);have J:=Lh (C.out.Ab l id);have M:=Lh (r.out.to l);clear l;go_wp2;refine d.out _ _ ⟨f.out.cell 0,f.out.cell 1⟩ fun b=>?_
 clear d s;refine hq 5 8 b ?_;refine Gg 6 fun s d=>?_
 rw[AQ (by rfl)];refine Ck (.tmp 2) (.tmp 8) rfl rfl rfl J.out Fp rfl (by simp[Value.oneCell']) ?_;intro E t O;clear O;rw[CZ (by rfl)];have D:=Lh (f.out.Ab t (by omega));replace f:=Lh E;have L:=Lh (M.out.AJ t fun k l e=>by have:=K.out;omega);clear E t;refine d.out _ _ ⟨D.out.cell 0,D.out.cell 1⟩ fun b=>?_
 clear d s;refine zw ?_;clear b;go_wp2;refine bodyPost_ret (v:=.agg #[zI op,.slice I n Q]) (Gz (p:=2) Tryz.results95 _ rfl f.out Tryz.underlying40 rfl Fp) rfl ?_;exact⟨_,_,rfl,L.out⟩
section
variable {w:Bc} {g a g2 a2 g3 a3 c2 c3:Nat} {x:DZ}
theorem Uo (nb c:Nat) (boot:Int) (ah:Cl w nb 9 (zI boot)) (ag:Cl w nb 10 (zS g a 1 c)) (R:Er w g a g2 a2 g3 a3 c2 c3 x) :
  Calls Tryz.prog 50 #[.pointer (some (zA nb 3))] w fun e w'=>∃ v,e= .returned (.agg #[zI boot,v])/\Au w w':=by
 obtain⟨bn,P,bj,bk,bl⟩:=info_parts M7;obtain⟨bp,Q,bg,bh,bi⟩:=info_parts TN;have al:=Lh fun G (l:Au w G)=>Sg x.op (zA g3 a3) c3 1 [x.who] G rfl (by omega) (by
  have h:=R.AB l;intro j bc;have Q:j=0:=by simpa using bc
  subst Q;obtain⟨_,ba⟩:=h.b3;exact⟨g3,a3,rfl,ba.lt,fun i bb=>by
   have P:i=0:=by simpa using bb
   subst P;exact h.s0⟩)
 have ab:=Lh R;have d:Hid (AX (w.alloc (.cells #[zO,zN] 36)) w.heap.size 36 #[zO,zN]):=Lh (AX.new w _ _);have b:Hid (Au w (w.alloc (.cells #[zO,zN] 36))):=Lh ((Aa _ w).alloc _);have Z:Hid ((w.alloc (.cells #[zO,zN] 36)).cell? (zA nb 9)=some (zI boot)):=Lh (Fz ah _);have am:Hid (Cl w nb 10 (zS g a 1 c)):=Lh ag;clear R ah ag;go_in;go_upto_region 1 with(fail)
 obtain⟨N,U⟩:∃ r,r=w.heap.size:=⟨_,rfl⟩
 generalize w.alloc (.cells #[zO,zN] 36)=C at d b Z ⊢;rw[<- U] at d ⊢;have an:=Lh U;clear U;have bu:=Z.out;have f:Hid (AX (C.alloc (.cells #[zI boot,zN] 36)) C.heap.size 36 #[zI boot,zN]):=Lh (AX.new C _ _);have ad:Hid (N<C.heap.size):=Lh d.out.lt;go_upto_region 2 with(fail)
 clear bu;replace d:=Lh (d.out.alloc (.cells #[zI boot,zN] 36));have aa:Hid (w.heap.size<=C.heap.size):=Lh b.out.size;replace b:=Lh (b.out.alloc (.cells #[zI boot,zN] 36));generalize C.alloc (.cells #[zI boot,zN] 36)=s at d b f ⊢;generalize C.heap.size=n at f ad aa ⊢;have bs:=Ae am.out b.out;go_upto_region 3 with(fail)
 refine wp_loop_rounds 2 ?_;rw[rounds_succ];have M:=ab.out.AB b.out;have bq:=M.k0;have br:=M.k1;have bt:=M.k2;clear M bs;have cg:Hid (AX (s.alloc (.cells #[zI x.value,zS g2 a2 1 c2,zI x.version] 43)) s.heap.size 43 #[zI x.value,zS g2 a2 1 c2,zI x.version]):=Lh (AX.new s _ _);go_upto_region 5 with(fail)
 clear bq br bt;have O:Hid (N<s.heap.size/\n<s.heap.size/\w.heap.size<=s.heap.size):=Lh ⟨d.out.lt,f.out.lt,b.out.size⟩;replace d:=Lh (d.out.alloc (.cells #[zI x.value,zS g2 a2 1 c2,zI x.version] 43));replace f:=Lh (f.out.alloc (.cells #[zI x.value,zS g2 a2 1 c2,zI x.version] 43));replace b:=Lh (b.out.alloc (.cells #[zI x.value,zS g2 a2 1 c2,zI x.version] 43));generalize s.alloc (.cells #[zI x.value,zS g2 a2 1 c2,zI x.version] 43)=J at d f b cg ⊢;generalize s.heap.size=ce at cg O ⊢;have W:Cl J ce 1 (zS g2 a2 1 c2):=cg.out.cell 1;have X:=cg.out.frozen 1;go_upto_region 7 with(fail)
 have m:Am (fun cf=>cf=ce) J (J.setCell (zA ce 1) (zN)):=(Aa (fun cf=>cf=ce) J).setCell (p:=zA ce 1) (fun _=>rfl) _;have cd:Hid (AX (J.setCell (zA ce 1) (zN)) ce 43 #[zI x.value,zN,zI x.version]):=Lh (cg.out.Dw 1 (zN));replace d:=Lh (d.out.Ab m (AX.GJ d.out cg.out (by decide)));replace f:=Lh (f.out.Ab m (AX.GJ f.out cg.out (by decide)));replace b:=Lh (b.out.AJ m fun cf hq e=>by have:=O.out;omega);clear W X m cg;generalize J.setCell (zA ce 1) (zN)=q at d f b cd ⊢;go_upto_region 8 with(fail)
 refine wp_loop_rounds 2 ?_;rw[rounds_succ];have T:=ab.out.AB b.out;have ar:=T.e0;have au:=T.e1;clear T;have k:Hid (AX (q.alloc (.cells #[zI x.op,zS g3 a3 1 c3] 40)) q.heap.size 40 #[zI x.op,zS g3 a3 1 c3]):=Lh (AX.new q _ _);go_upto_region 10 with(fail)
 clear ar au;have ao:Hid (N<q.heap.size/\n<q.heap.size/\ce<q.heap.size/\w.heap.size<=q.heap.size):=Lh ⟨d.out.lt,f.out.lt,cd.out.lt,b.out.size⟩;replace d:=Lh (d.out.alloc (.cells #[zI x.op,zS g3 a3 1 c3] 40));replace f:=Lh (f.out.alloc (.cells #[zI x.op,zS g3 a3 1 c3] 40));replace b:=Lh (b.out.alloc (.cells #[zI x.op,zS g3 a3 1 c3] 40));replace cd:=Lh (cd.out.alloc (.cells #[zI x.op,zS g3 a3 1 c3] 40));generalize q.alloc (.cells #[zI x.op,zS g3 a3 1 c3] 40)=bx at d f b cd k ⊢;generalize q.heap.size=bz at k ao ⊢;refine EQ 7 (S:=fun G=>Cl G ce 1 (zN)/\AX G bz 40 #[zI x.op,zS g3 a3 1 c3]) (by kernel_rfl) ⟨cd.out.drew.cell 1,k.out.drew⟩ fun o=>?_
 replace d:=Lh d.out.drew;replace f:=Lh f.out.drew;replace b:=Lh b.out.drew;replace cd:=Lh cd.out.drew;replace k:=Lh k.out.drew;generalize bx.drew=cc at d f b cd k o ⊢;refine zq 0 34 o ?_;refine zq 1 35 o ?_;refine zq 2 36 (hx:=fun G ax=>Ce (.tmp 8) rfl rfl ax.2 Tryz.underlying40 rfl Fp) o ?_;refine zs 3 rfl fun u l=>?_
 go_simp;refine(al.out _ b.out).mono ?_;rintro e K ⟨Y,ak,rfl,I⟩;replace d:=Lh (d.out.Ab I id);replace f:=Lh (f.out.Ab I id);replace cd:=Lh (cd.out.Ab I id);replace k:=Lh (k.out.Ab I id);replace b:=Lh (b.out.to I);clear I;go_wp2;refine l.out _ _ ⟨cd.out.cell 1,k.out⟩ fun o=>?_
 clear l u;refine zs 4 rfl fun u l=>?_
 go_simp;refine l.out _ _ ⟨(cd.out.alloc _).cell 1,k.out.alloc _⟩ fun o=>?_
 clear l u;refine zs 5 rfl fun u l=>?_
 rw[AQ (by rfl)];refine wp_append_lies _ (.tmp 35) (.tmp 38) 41 rfl K.heap.size 40 bn _ 2 32 Tryz.underlying41 P bj bk bl rfl (by omega) (zN) 0 [] rfl (World.ownsRow_nil _ _ _ _) (zA K.heap.size 0) 1 1 [zI x.op,.slice Y 1 ak] rfl rfl (World.news_of_block (cs:=#[zI x.op,.slice Y 1 ak]) (t:=40) (fr:=(0,0)) (heap_alloc_new K _)) (by simp[Value.oneCell']) (by omega) (by unfold maxLen;omega) (by omega) (by simp) (K.heap.size+1) (by simp) ?_;intro A y E aq aj az be;rw[Ga 39 (by rfl)];dsimp only[Act.put,AZ,Bq,Bi];have H:Au K E:=((T0 K).alloc _).grown aj fun cf e=>by cases e
 replace d:=Lh (d.out.Ab H id);replace f:=Lh (f.out.Ab H id);replace cd:=Lh (cd.out.Ab H id);replace k:=Lh (k.out.Ab H id);replace b:=Lh (b.out.to H);clear aq aj az be H;refine l.out _ _ ⟨cd.out.cell 1,k.out⟩ fun o=>?_
 clear l u;refine zq 6 40 o ?_;refine zl fun u l=>?_
 have W:Cl E ce 1 (zN):=cd.out.cell 1;have X:=cd.out.frozen 1;go_simp;refine l.out _ _ ?_;clear l u;refine zd ?_;clear o;have m:Am (fun cf=>cf=ce) E (E.setCell (zA ce 1) (zS A 0 1 y)):=(Aa (fun cf=>cf=ce) E).setCell (p:=zA ce 1) (fun _=>rfl) _;have ae:Hid (AX (E.setCell (zA ce 1) (zS A 0 1 y)) ce 43 #[zI x.value,zS A 0 1 y,zI x.version]):=Lh (cd.out.Dw 1 (zS A 0 1 y));replace d:=Lh (d.out.Ab m (AX.GJ d.out cd.out (by decide)));replace f:=Lh (f.out.Ab m (AX.GJ f.out cd.out (by decide)));replace b:=Lh (b.out.AJ m fun cf hq e=>by have:=O.out;omega);clear W X m cd;generalize E.setCell (zA ce 1) (zS A 0 1 y)=F at d f b ae ⊢;go_upto_region 11 with(fail)
 go_wp2;rw[rounds_succ];have V:Cl F n 1 (zN):=f.out.cell 1;go_upto_region 13 with(first
  |(refine AA rfl (.tmp 5) rfl rfl ae.out Tryz.underlying43 rfl LV ?_)
  |(at_builtin;go_must (refine wpList_append_lies _ rfl (.tmp 43) (.tmp 45) 34 rfl F.heap.size 43 bp _ 3 40 Tryz.underlying34 Q bg bh bi rfl (by omega) (zN) 0 [] rfl (World.ownsRow_nil _ _ _ _) (zA F.heap.size 0) 1 1 [zI x.value,zS A 0 1 y,zI x.version] rfl rfl (World.news_of_block (cs:=#[zI x.value,zS A 0 1 y,zI x.version]) (t:=43) (fr:=(0,0)) (heap_alloc_new F _)) (by simp[Value.oneCell']) (by omega) (by unfold maxLen;omega) (by omega) (by simp) (F.heap.size+1) (by simp) ?_);intro B z D ap ai ay bd;have L:Au F D:=((T0 F).alloc _).grown ai (fun cf e=>by cases e);replace d:=Lh (d.out.Ab L id);replace f:=Lh (f.out.Ab L id);replace b:=Lh (b.out.to L);clear ap ai ay bd L V;have V:Cl D n 1 (zN):=f.out.cell 1;have bv:=f.out.frozen 1))
 have m:Am (fun cf=>cf=n) D (D.setCell (zA n 1) (zS B 0 1 z)):=(Aa (fun cf=>cf=n) D).setCell (p:=zA n 1) (fun _=>rfl) _;have ac:Hid (AX (D.setCell (zA n 1) (zS B 0 1 z)) n 36 #[zI boot,zS B 0 1 z]):=Lh (f.out.Dw 1 (zS B 0 1 z));replace d:=Lh (d.out.Ab m fun(e:N=n)=>by have:=ad.out;omega);replace b:=Lh (b.out.AJ m fun cf hq e=>by have:=aa.out;omega);clear V bv m;generalize D.setCell (zA n 1) (zS B 0 1 z)=ca at d b ac ⊢;go_wp2;rw[rounds_succ];go_wp2_with (first
  |(refine AA rfl (.tmp 3) rfl rfl ac.out Tryz.underlying36 rfl Ep ?_)
  |(refine Bo rfl (.tmp 2) (.tmp 49) rfl rfl (cs':=#[zI boot,zS B 0 1 z]) rfl d.out Ep rfl (by simp[Value.oneCell']) ?_;intro cb av aw bf;clear bf))
 refine bodyPost_ret (v:=.agg #[zI boot,zS B 0 1 z]) (Gz (p:=2) Tryz.results50 _ rfl av Tryz.underlying36 rfl Ep) rfl ?_;exact⟨_,rfl,b.out.AJ aw fun cf hq e=>by have:=an.out;omega⟩
end

end Go.Proofs.YtcjcndnjpedniaaGreat
