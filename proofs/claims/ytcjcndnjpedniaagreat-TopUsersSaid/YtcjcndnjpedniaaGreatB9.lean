/- A part of the proof of TopUsers. -/
import Derived.Test.YtcjcndnjpedniaaGreatB8
namespace Go.Proofs.YtcjcndnjpedniaaGreat
set_option linter.all false
set_option maxRecDepth 100000
set_option maxHeartbeats 8000000
open Go.RowKit
section
variable {w w' W:Bc}
def Li (x:BB) (xs:List BB):Int:=Im (xs.findIdx? fun a=>x.toList==a.toList)
def Jy (x:BB) (xs:List BB):Bool:=xs.any fun a=>x.toList==a.toList
theorem JU {x:BB} {xs:List BB}:Jy x xs=true↔x∈xs:=by
 unfold Jy;rw[F6];constructor
 ·rintro⟨c,b,a⟩;rw[bytes_beq] at a;have:x=c:=by simpa using a
  rw[this];exact b
 ·intro a;exact⟨x,a,by simp⟩
theorem KU {x:BB} {xs:List BB}:Jy x xs=false↔x∉xs:=by rw[<- Bool.not_eq_true,JU]
theorem TM (x:BB) (xs:List BB):decide ((0:Int)<=Li x xs)=Jy x xs:=by
 unfold Li;rcases a:xs.findIdx? (fun g=>x.toList==g.toList) with _|f
 ·have e:x∉xs:=fun b=>by
   have:=Ct.1 a x b;simp at this
  rw[KU.2 e,a];rfl
 ·obtain⟨d,c,_⟩:=Cj.1 a;have b:x∈xs:=by
   have:x=xs[f]:=by rw[bytes_beq] at c;simpa using c
   rw[this];exact Br d
  rw[JU.2 b,a];simp[Im]
theorem XG (A:Option Addr) (c B:Nat) (xs:List BB) (x:BB) (w:Bc) (E:xs.length<=1000000) (o:Ay Value.string w B 1 A xs) :
  Calls Tryz.prog 214 #[.slice A xs.length c,.string x] w (Rt (zI (Li x xs)) fun w'=>w=w'):=by
 have q:=Lh o;clear o;go_in;go_wp2;go_loopg [8] xs.length fun gk d wr=>∃ a:Nat,a+gk=xs.length/\d=zI a/\w=wr/\∀ d b,d<a->xs[d]?= some b->(x.toList==b.toList)=false
 case atStart=>exact⟨0,Bz _,rfl,rfl,fun d b f=>by omega⟩
 case round =>
  obtain⟨a,D,rfl,rfl,n⟩:=hrel;have h:=Lh n;clear n;by_cases m:a<xs.length
  ·obtain⟨r,v,rfl,C,k⟩:=Ay.BV (V:=Value.string) (fun _=>rfl) q.out m;obtain⟨b,g⟩:∃ b,b=xs[a]:=⟨_,rfl⟩
   have l:Hid (xs[a]?= some b):=Lh (by rw[g];exact Ah m);rw[<- g] at k;have z:Cl w r (v+a) (.string b):=k;have F:(0:Int)<=(a:Int):=by omega
   have u:(a:Int)<(xs.length:Int):=by omega
   clear g k;rcases hq:(x.toList==b.toList) with _|_
   ·have j:=Lh hq;go_wp2;go_roundg (gk-1)
    case measure=>omega
    case rel =>
     refine⟨a+1,by omega,by go_num,rfl,fun d y f p=>?_⟩;by_cases t:d=a
     ·subst t;have e:=l.out;rw[p] at e;injection e with e;rw[e];exact j.out
     ·exact h.out d y (by omega) p
   ·have j:=Lh hq;have i:Hid (Li x xs=(a:Int)):=by
     show Li x xs=_;unfold Li;have:xs.findIdx? (fun b=>x.toList==b.toList)=some a:=by
      rw[Cj];obtain⟨e,s⟩:=AC.1 l.out;refine⟨e,by rw[s];exact j.out,fun d f=>?_⟩;have:=h.out d _ f (Ah (by omega));simp[this]
     rw[this];rfl
    go_wp2;go_ret;exact⟨by rw[i.out];rfl,rfl⟩
  ·have u:¬(a:Int)<(xs.length:Int):=by omega
   have i:Hid (Li x xs = -1):=by
    show Li x xs=_;unfold Li;have:xs.findIdx? (fun b=>x.toList==b.toList)=none:=by
     rw[Ct];intro b g;obtain⟨d,f,rfl⟩:=CQ g;exact h.out d _ (by omega) (Ah f)
    rw[this];rfl
   go_wp2;go_ret;exact⟨by rw[i.out];rfl,rfl⟩
theorem RP (A:Option Addr) (c B:Nat) (xs:List BB) (x:BB) (w:Bc) (e:xs.length<=1000000) (d:Ay Value.string w B 1 A xs) :
  Calls Tryz.prog 188 #[.slice A xs.length c,.string x] w (Rt (.bool (Jy x xs)) fun w'=>w=w'):=by
 have a:=Lh (XG A c B xs x w e d);have b:=Lh (TM x xs);clear d;go_in;go_wp2_with fail;refine a.out.mono ?_;rintro f h ⟨rfl,rfl⟩;clear a;generalize Li x xs=g at b;go_wp2;go_ret;exact⟨by rw[<- b.out];rfl,rfl⟩
theorem XH (A:Option Addr) (c B:Nat) (xs:List BB) (x:BB) (w:Bc) (E:xs.length<=1000000) (o:Ay Value.string w B 1 A xs) :
  Calls Tryz.prog 292 #[.slice A xs.length c,.string x] w (Rt (zI (Li x xs)) fun w'=>w=w'):=by
 have q:=Lh o;clear o;go_in;go_wp2;go_loopg [8] xs.length fun gk d wr=>∃ a:Nat,a+gk=xs.length/\d=zI a/\w=wr/\∀ d b,d<a->xs[d]?= some b->(x.toList==b.toList)=false
 case atStart=>exact⟨0,Bz _,rfl,rfl,fun d b f=>by omega⟩
 case round =>
  obtain⟨a,D,rfl,rfl,n⟩:=hrel;have h:=Lh n;clear n;by_cases m:a<xs.length
  ·obtain⟨r,v,rfl,C,k⟩:=Ay.BV (V:=Value.string) (fun _=>rfl) q.out m;obtain⟨b,g⟩:∃ b,b=xs[a]:=⟨_,rfl⟩
   have l:Hid (xs[a]?= some b):=Lh (by rw[g];exact Ah m);rw[<- g] at k;have z:Cl w r (v+a) (.string b):=k;have F:(0:Int)<=(a:Int):=by omega
   have u:(a:Int)<(xs.length:Int):=by omega
   clear g k;rcases hq:(x.toList==b.toList) with _|_
   ·have j:=Lh hq;go_wp2;go_roundg (gk-1)
    case measure=>omega
    case rel =>
     refine⟨a+1,by omega,by go_num,rfl,fun d y f p=>?_⟩;by_cases t:d=a
     ·subst t;have e:=l.out;rw[p] at e;injection e with e;rw[e];exact j.out
     ·exact h.out d y (by omega) p
   ·have j:=Lh hq;have i:Hid (Li x xs=(a:Int)):=by
     show Li x xs=_;unfold Li;have:xs.findIdx? (fun b=>x.toList==b.toList)=some a:=by
      rw[Cj];obtain⟨e,s⟩:=AC.1 l.out;refine⟨e,by rw[s];exact j.out,fun d f=>?_⟩;have:=h.out d _ f (Ah (by omega));simp[this]
     rw[this];rfl
    go_wp2;go_ret;exact⟨by rw[i.out];rfl,rfl⟩
  ·have u:¬(a:Int)<(xs.length:Int):=by omega
   have i:Hid (Li x xs = -1):=by
    show Li x xs=_;unfold Li;have:xs.findIdx? (fun b=>x.toList==b.toList)=none:=by
     rw[Ct];intro b g;obtain⟨d,f,rfl⟩:=CQ g;exact h.out d _ (by omega) (Ah f)
    rw[this];rfl
   go_wp2;go_ret;exact⟨by rw[i.out];rfl,rfl⟩
theorem RQ (A:Option Addr) (c B:Nat) (xs:List BB) (x:BB) (w:Bc) (e:xs.length<=1000000) (d:Ay Value.string w B 1 A xs) :
  Calls Tryz.prog 287 #[.slice A xs.length c,.string x] w (Rt (.bool (Jy x xs)) fun w'=>w=w'):=by
 have a:=Lh (XH A c B xs x w e d);have b:=Lh (TM x xs);clear d;go_in;go_wp2_with fail;refine a.out.mono ?_;rintro f h ⟨rfl,rfl⟩;clear a;generalize Li x xs=g at b;go_wp2;go_ret;exact⟨by rw[<- b.out];rfl,rfl⟩
theorem iC (A:Option Addr) (c B:Nat) (xs:List BB) (x:BB) (w:Bc) (d:xs.length<=1000000) (a:Ay Value.string w B 1 A xs) :
  Calls Tryz.prog 145 #[.slice A xs.length c,.string x] w (Rt (.bool (Jy x xs)) fun w'=>w=w'):=by
 have b:=Lh (RP A c B xs x w d a);clear a;go_in;go_wp2_with fail;refine b.out.mono ?_;rintro e f ⟨rfl,rfl⟩;go_wp2;go_ret;exact⟨rfl,rfl⟩
theorem Qt (p q:Option Addr) (z A u v:Nat) (xs b:List BB) (w:Bc) (H:xs.length<=1000000) (I:b.length<=1000000) (k:Ay Value.string w u 1 p xs) (l:Ay Value.string w v 1 q b) :
  Calls Tryz.prog 260 #[.slice p xs.length z,.slice q b.length A] w (Rt (.bool (decide (xs=b))) fun w'=>∃ n,w'=w.drewN n):=by
 by_cases e:xs.length=b.length
 ·have F:((xs.length:Int)!=(b.length:Int))=false:=by simp[e]
  have x:=Lh e;have M:xs.length<=b.length:=by omega
  clear e;go_in;go_wp2;go_loopg [13] xs.length fun gk G wr=>∃ a:Nat,a+gk=xs.length/\G=zI a/\xs.take a=b.take a/\∃ n,wr=w.drewN n
  case atStart=>exact⟨0,Bz _,rfl,rfl,0,rfl⟩
  case round =>
   obtain⟨a,L,rfl,d,n,rfl⟩:=hrel;by_cases t:a<xs.length
   ·obtain⟨J,Q,rfl,_,B⟩:=Ay.BV (fun _=>rfl) k t;obtain⟨K,R,rfl,_,C⟩:=Ay.BV (fun _=>rfl) l (j:=a) (by omega);have y:=Lh d;obtain⟨f,m⟩:∃ f,f=xs[a]:=⟨_,rfl⟩
    obtain⟨g,o⟩:∃ g,g=b[a]'(by omega):=⟨_,rfl⟩
    rw[<- m] at B;rw[<- o] at C;have r:=Lh m;have s:=Lh o;have N:(0:Int)<=(a:Int):=by omega
    have O:(a:Int)<(xs.length:Int):=by omega
    have P:(a:Int)<(b.length:Int):=by omega
    clear k l d m o;by_cases c:f=g
    ·have D:(f.toList==g.toList)=true:=by rw[bytes_beq,BH c]
     have h:=Lh c;clear c;go_wp2_with fail;go_quiet (fail);go_wp2;go_roundg (gk-1)
     case measure=>omega
     case rel=>exact⟨a+1,by omega,by go_num,Mo t (by omega) y.out (by rw[<- r.out,<- s.out,h.out]),_,rfl⟩
    ·have D:(f.toList==g.toList)=false:=by rw[bytes_beq,BC c]
     have h:=Lh c;clear c;go_wp2_with fail;go_quiet (fail);go_wp2;go_ret;refine⟨?_,n+nq,by rw[World.drewN_drewN]⟩;rw[BC]
     ·rfl
     ·intro j;refine h.out ?_;rw[r.out,s.out];simp only[j]
   ·have E:a=xs.length:=by omega
    clear k l;have i:Hid (xs=b):=by
     rw[E,Cr,Bt (by have:=x.out;omega)] at d;exact d
    clear d;go_wp2;go_ret;exact⟨by rw[BH i.out];rfl,_,rfl⟩
 ·have F:((xs.length:Int)!=(b.length:Int))=true:=by simp;omega
  have i:Hid (decide (xs=b)=false):=BC fun j=>e (by rw[j])
  clear e;go_in;go_wp2;go_ret;exact⟨by rw[i.out];rfl,0,rfl⟩
end

section
variable {w w' W:Bc}
theorem FL (a:Int) (w:Bc) (ha:Ey a):Calls Tryz.prog 17 #[zU a] w (Rt (zI (a/8192)) fun w'=>w=w'):=by
 obtain⟨c,g⟩:=ha;have f:a.tmod 8192=a%8192:=DY c;have b:(a-a%8192).tdiv 8192=a/8192:=by rw[Dk (by omega)];omega
 have h:0<=a%8192:=by omega
 have i:a%8192<=a:=by omega
 have d:0<=a-a%8192:=by omega
 have e:a-a%8192<=65535:=by omega
 go_in;go_wp2;go_ret;exact⟨by first|rfl|(simp[b]),rfl⟩
theorem Qq (n:Int) (w:Bc):Calls Tryz.prog 20 #[zI n] w (Rt (.bool (GA n)) fun w'=>w=w'):=by
 by_cases a:0<=n
 ·have c:decide (0<=n)=true:=by simpa using a
  have b:Hid (GA n=decide (n<=4611686018427387904)):=by show GA n=_;unfold GA;simp[a]
  clear a;go_in;go_wp2;go_ret;exact⟨by rw[b.out];rfl,rfl⟩
 ·have c:decide (0<=n)=false:=by simpa using a
  have b:Hid (GA n=false):=by show GA n=_;unfold GA;simp[a]
  clear a;go_in;go_wp2;go_ret;exact⟨by rw[b.out];rfl,rfl⟩
def EE (s:BB):Int:=if(AU s).length=1 then G6 s 0/8192 else -1
theorem I6 (s:BB) (w:Bc) (o:s.size<=1000000):Calls Tryz.prog 43 #[.string s] w (Rt (zI (EE s)) (Au w)):=by
 have e:=Lh (G7 s w o);have x:(AU s).length<=1000000:=by rw[BG];omega
 go_in;go_wp2_with fail;refine e.out.mono ?_;rintro l q ⟨z,rfl,a,g⟩;obtain⟨r,y,rfl⟩:=BD a;clear e;by_cases c:(AU s).length=1
 ·obtain⟨k,p,m,n,d⟩:=Ay.BV (V:=JC) (fun _=>rfl) (Ay.Ea (V:=JC) (fun _=>rfl) a) (j:=0) (by omega);subst m;have f:(AU s)[0]=G6 s 0:=(GM (i:=0) (by omega)).symm;rw[f] at d;have u:Cl q k p (zU (G6 s 0)):=d;have h:=Lh fun W=>FL (G6 s 0) W (IJ s 0)
  have b:Hid (EE s=G6 s 0/8192):=by show EE s=_;unfold EE;rw[AQ c]
  generalize G6 s 0=t at *;rw[c] at a ⊢;clear f d a n;go_wp2_with fail;refine(h.out _).mono ?_;rintro l A ⟨rfl,rfl⟩;go_wp2;go_ret;exact⟨by rw[b.out];rfl,g⟩
 ·have b:Hid (EE s = -1):=by show EE s=_;unfold EE;rw[Bg c]
  have v:(((AU s).length:Int)!=1)=true:=by simp;omega
  clear a;go_wp2;go_ret;exact⟨by rw[b.out];rfl,g⟩
theorem Sm {b n k:Nat} {cs:Array Value} {t:TypeId} (l:List Int) (d:l.length=n) (c:cs.toList=l.map JC) (f:l.length<=1000) (e:∀ x∈l,Ey x) (W:Bc) (a:AX W b t cs) :
  Calls Tryz.prog 7 #[zS b 0 n k] W (Rt (.string (C8 l)) (Au W)):=by
 subst d;exact Xf _ _ l _ (by omega) (Gf (fun _=>rfl) a l c) e
theorem bI (i:Int) (w:Bc) (g:0<=i) (h:i<=100):Calls Tryz.prog 14 #[zI i] w (Rt (.string (C8 [24577+i,40961])) (Au w)):=by
 have b:=Lh fun(W:Bc) (c a:Nat) (d:AX W c 25 #[zU (24577+i),zU 40961])=>Sm (k:=a) (n:=2) [24577+i,40961] rfl rfl (by simp) (by intro k hx;simp at hx;rcases hx with rfl|rfl<;>constructor<;>omega) W d
 go_in;go_wp2_with (go_at_call 7;refine(b.out _ _ _ ?_).mono ?_;(exact AX.new _ _ _);rintro f j ⟨rfl,e⟩);go_ret;exact⟨rfl,((T0 _).alloc _).to e⟩
end

theorem Ti:∀ x y:List UInt8,Op.bytesLess x y=true->Op.bytesLess y x=false
 |[],[],a=>by simp[Op.bytesLess] at a
 |[],_::_,_=>by simp[Op.bytesLess]
 |_::_,[],a=>by simp[Op.bytesLess] at a
 |c::x,b::y,a=>by
  simp only[Op.bytesLess] at a ⊢;by_cases d:c=b
  ·subst d;have:=Ti x y (by simpa using a);simpa using this
  ·have f:c<b:=by simpa [d] using a
   have e:¬b<c:=by rw[UInt8.lt_iff_toNat_lt] at *;omega
   simp[BZ d,e]
theorem Tj:∀ x y:List UInt8,x.length=y.length->Op.bytesLess x y=false->Op.bytesLess y x=false->x=y
 |[],[],_,_,_=>rfl
 |[],_::_,d,_,_=>by simp at d
 |_::_,[],d,_,_=>by simp at d
 |c::x,b::y,g,e,f=>by
  simp only[Op.bytesLess] at e f;by_cases a:c=b
  ·subst a;rw[Tj x y (by simpa using g) (by simpa using e) (by simpa using f)]
  ·have h:¬c<b:=by simpa [a] using e
   have i:¬b<c:=by simpa [BZ a] using f
   exact Bv (UInt8.toNat_inj.1 (by rw[UInt8.lt_iff_toNat_lt] at *;omega)) a
theorem Tk:∀ x y z:List UInt8,Op.bytesLess x y=true->Op.bytesLess y z=true->Op.bytesLess x z=true
 |[],_,[],_,a=>by cases ‹List UInt8›<;>simp[Op.bytesLess] at a
 |[],_,_::_,_,_=>by simp[Op.bytesLess]
 |_::_,[],_,a,_=>by simp[Op.bytesLess] at a
 |_::_,_::_,[],_,a=>by simp[Op.bytesLess] at a
 |e::x,b::y,c::z,f,g=>by
  simp only[Op.bytesLess] at f g ⊢;by_cases h:e=b
  ·subst h;by_cases d:e=c
   ·subst d;have:=Tk x y z (by simpa using f) (by simpa using g);simpa using this
   ·simpa [d] using g
  ·have j:e<b:=by simpa [h] using f
   by_cases d:b=c
   ·subst d;simpa [h] using f
   ·have k:b<c:=by simpa [d] using g
    have i:e<c:=by rw[UInt8.lt_iff_toNat_lt] at *;omega
    simp[i]
theorem TV {d b:BB} (a:Ec d b=true):Ec b d=false:=by
 unfold Ec at *;by_cases c:d.size=b.size
 ·rw[AQ c] at a;rw[AQ c.symm];exact Ti _ _ a
 ·rw[Bg c] at a;rw[Bg (BZ c)];simp at a ⊢;omega
theorem TW {c b:BB} (d:Ec c b=false) (e:Ec b c=false):c=b:=by
 unfold Ec at *;by_cases a:c.size=b.size
 ·rw[AQ a] at d;rw[AQ a.symm] at e;exact bytes_inj.1 (Tj _ _ (by rw[ByteArray.toList_eq,ByteArray.toList_eq,GG,GG];exact a) d e)
 ·rw[Bg a] at d;rw[Bg (BZ a)] at e;simp at d e;omega
theorem Ov {e b c:BB} (d:Ec e b=true) (a:Ec b c=true):Ec e c=true:=by
 unfold Ec at *;by_cases f:e.size=b.size
 ·rw[AQ f] at d;by_cases ht:b.size=c.size
  ·rw[AQ ht] at a;rw[AQ (by omega)];exact Tk _ _ _ d a
  ·rw[Bg ht] at a;rw[Bg (by omega)];simp at a ⊢;omega
 ·rw[Bg f] at d;by_cases ht:b.size=c.size
  ·rw[AQ ht] at a;rw[Bg (by omega)];simp at d ⊢;omega
  ·rw[Bg ht] at a;simp at d a;rw[Bg (by omega)];simp;omega
theorem VQ (a b:BB):(Ec a b=true/\Ec b a=false/\a≠b)∨(Ec a b=false/\Ec b a=true/\a≠b)∨(Ec a b=false/\Ec b a=false/\a=b):=by
 rcases d:Ec a b with _|_
 ·rcases c:Ec b a with _|_
  ·exact .inr (.inr ⟨rfl,rfl,TW d c⟩)
  ·exact .inr (.inl ⟨rfl,rfl,by rintro rfl;rw[d] at c;cases c⟩)
 ·have c:=TV d;exact .inl ⟨rfl,c,by rintro rfl;rw[d] at c;cases c⟩
def Kw (a:List BB) (x:BB):Bool:=match a.getLast? with
 |none=>true
 |some b=>Ec b x
def J7 (l c:List BB) (j:Nat) (d:BB) (f:Bool):Prop :=
 (f=false->∀ b a,b<j->l[b]?= some a->Kw c a=false)/\(f=true->d∈l/\Kw c d=true/\∀ b a,b<j->l[b]?= some a->Kw c a=true->Ec a d=false)
def Pk (l a:List BB) (g:Nat):Prop:=(∀ b∈a,b∈l)/\(∀ b∈l,b∉a->Kw a b=true)/\l.countP (Kw a)<=g/\a.length+g<=l.length
theorem Px {g : Type} {p q:g->Bool}:∀ {l:List g},(∀ x∈l,q x=true->p x=true)->(∃ x∈l,p x=true/\q x=false)->l.countP q<l.countP p
 |[],_,a=>by obtain⟨x,hx,_⟩:=a;cases hx
 |b::l,a,⟨x,hx,e,f⟩=>by
  have i:l.countP q<=l.countP p:=List.countP_mono_left fun d c hq=>a d (Dn _ c) hq
  rw[List.countP_cons,List.countP_cons];rcases BI.1 hx with rfl|hx
  ·simp only[e,f,if_true];simp;omega
  ·have:=Px (p:=p) (q:=q) (l:=l) (fun d c=>a d (Dn _ c)) ⟨x,hx,e,f⟩;have ha:=a b (by simp);by_cases hq:q b=true
   ·simp[hq,ha hq];omega
   ·by_cases h:p b=true<;>simp[hq,h]<;>omega
theorem Pk.more {l b:List BB} {g:Nat} {d:BB} (a:Pk l b g) (e:J7 l b l.length d true):Pk l (b++[d]) (g-1)/\0<g:=by
 obtain⟨p,q,v,w⟩:=a;obtain⟨j,f,o⟩:=e.2 rfl;have h:∀ c,Kw (b++[d]) c=Ec d c:=fun c=>by simp[Kw]
 have x:l.countP (Kw (b++[d]))<l.countP (Kw b):=by
  refine Px (fun c _ hx=>?_) ⟨d,j,f,by rw[h,M9]⟩;rw[h] at hx;rcases k:b.getLast? with _|u
  ·unfold Kw;rw[k]
  ·have t:∀ i,Kw b i=Ec u i:=fun i=>by unfold Kw;rw[k]
   rw[t] at f ⊢;exact Ov f hx
 refine⟨⟨?_,?_,by omega,by rw[Ap,Cv];omega⟩,by omega⟩
 ·intro c hx;rcases Bd.1 hx with hx|hx
  ·exact p c hx
  ·rw[Ai.1 hx];exact j
 ·intro c hx m;rw[h];have r:c∉b:=fun a=>m (List.mem_append_left _ a)
  have s:c≠d:=fun a=>m (by rw[a];simp)
  obtain⟨n,e,rfl⟩:=CQ hx;have:=o n _ e (Ah e) (q _ hx r);rcases VQ l[n] d with a|a|a
  ·rw[a.1] at this;cases this
  ·exact a.2.1
  ·exact Bv a.2.2 s
theorem Pk.lT {l a:List BB} {g:Nat} {e:BB} (c:Pk l a g) (f:J7 l a l.length e false) (x:BB):x∈a↔x∈l:=by
 refine⟨c.1 x,fun hx=>?_⟩;rcases Classical.em (x∈a) with b|b
 ·exact b
 ·have:=c.2.1 x hx b;obtain⟨h,d,rfl⟩:=CQ hx;rw[f.1 rfl h _ d (Ah d)] at this;cases this
theorem J7.no {l e:List BB} {j:Nat} {g x:BB} {f:Bool} (d:J7 l e j g f) (hx:l[j]?= some x) (a:Kw e x=false∨f=true/\Ec x g=false):J7 l e (j+1) g f:=by
 refine⟨fun n c m o b=>?_,fun h=>⟨(d.2 h).1,(d.2 h).2.1,fun c m o b i=>?_⟩⟩
 ·by_cases k:c=j
  ·subst k;rw[hx] at b;cases b;rcases a with a|⟨a,_⟩
   ·exact a
   ·rw[n] at a;cases a
  ·exact d.1 n c m (by omega) b
 ·by_cases k:c=j
  ·subst k;rw[hx] at b;cases b;rcases a with a|⟨_,a⟩
   ·rw[a] at i;cases i
   ·exact a
  ·exact(d.2 h).2.2 c m (by omega) b i
theorem J7.yes {l g:List BB} {j:Nat} {i x:BB} {f:Bool} (h:J7 l g j i f) (hx:l[j]?= some x) (n:Kw g x=true) (a:f=false∨Ec x i=true):J7 l g (j+1) x true:=by
 refine⟨(fun o=>by cases o),fun _=>⟨Bn hx,n,fun d e q c b=>?_⟩⟩;by_cases p:d=j
 ·subst p;rw[hx] at c;cases c;exact M9 _
 ·rcases a with a|a
  ·have:=h.1 a d e (by omega) c;rw[this] at b;cases b
  ·rcases f with _|_
   ·have:=h.1 rfl d e (by omega) c;rw[this] at b;cases b
   ·have k:=(h.2 rfl).2.2 d e (by omega) c b;rcases m:Ec e x with _|_
    ·rfl
    ·rw[Ov m a] at k;cases k
section
variable {w w' W:Bc}
theorem Yw (A:Option Addr) (k:Nat) (l:List BB) (w:Bc) (cg:l.length<=1000) (ai:∀ s∈l,s.size<=1000) (ah:Ay Value.string w w.heap.size 1 A l) :
  Calls Tryz.prog 45 #[.slice A l.length k] w fun e w'=>∃ (cm:List BB) (n:Option Addr) (q:Nat),e= .returned (.slice n cm.length q)/\w'.ownsRow w.heap.size 27 1 (.slice n cm.length q) cm.length (cm.map Value.string)/\(∀ x,x∈cm↔x∈l)/\cm.length<=l.length/\Au w w':=by
 obtain⟨al,bb,bf,bg,bh⟩:=info_parts Iz;have ad:=IG w w.heap.size 27 1 (AY _);have aq:=Lh ah;have aa:=Lh ai;have g:=Lh fun a co W (ha:a.size<=1000)=>Rz a co W (by omega)
 have Z:Hid (Pk l [] l.length):=Lh ⟨by simp,fun _ _ _=>rfl,List.countP_le_length,by simp⟩;clear ah ai;go_in;go_wp2;go_loopg [3] l.length fun gk v wr=>∃ cm:List BB,wr.ownsRow w.heap.size 27 1 v cm.length (cm.map Value.string)/\Pk l cm gk/\Au w wr
 case atStart=>exact⟨[],ad,Z.out,(Aa _ _).alloc _⟩
 case round =>
  obtain⟨cm,cp,T,ae⟩:=hrel;have F:=Lh T;have cj:cm.length<=1000:=by have:=T.2.2.2;omega
  clear ad Z T;obtain⟨y,bd⟩:∃ y,y=wr:=⟨_,rfl⟩
  subst bd;obtain⟨P,az⟩:∃ P,P=gk:=⟨_,rfl⟩
  subst az;obtain⟨n,q,rfl⟩:=BD cp;have ap:=Lh cp;have an:=Lh ae;clear cp ae;go_wp2;go_loopg [4,5,6] l.length fun gk co f i wr=>∃ (b cn:Nat) (c:BB) (r:Bool),b+gk=l.length/\i=zI b/\co= .string c/\f= .bool r/\J7 l cm b c r/\wr=y.drewN cn
  case atStart=>exact⟨0,0,_,_,Bz _,rfl,rfl,rfl,⟨(fun _ i x cd=>by omega),(fun z=>by cases z)⟩,rfl⟩
  case round =>
   obtain⟨b,cn,c,r,ce,rfl,rfl,rfl,af,rfl⟩:=hrel;have o:=Lh af;clear af;obtain⟨d,C⟩:∃ d,d=y.drewN cn:=⟨_,rfl⟩
   rw[<- C];have E:Hid (Au w d):=Lh (by rw[C];exact an.out.drewN cn);have O:Hid (d.ownsRow w.heap.size 27 1 (.slice n cm.length q) cm.length (cm.map Value.string)):=Lh (Aj ap.out (by rw[C];exact(T0 y).drewN cn) fun _ _ z=>z);have ar:=Lh C;clear C;by_cases S:b<l.length
   ·obtain⟨co,Y,rfl,ay,Q⟩:=Ay.BV (V:=Value.string) (fun _=>rfl) aq.out S;obtain⟨x,hx⟩:∃ x,x=l[b]:=⟨_,rfl⟩
    have H:Hid (l[b]?= some x):=Lh (by rw[hx];exact Ah S);have aj:x.size<=1000:=by rw[hx];exact aa.out _ (Br S)
    rw[<- hx] at Q;have ac:d.cell? (zA co (Y+b))=some (.string x):=(E.out.cell (p:=zA co (Y+b)) ay id).trans Q;have al:(0:Int)<=(b:Int):=by omega
    have bi:(b:Int)<(l.length:Int):=by omega
    clear hx Q;go_upto_region 7 with(fail)
    go_cut [7] fun bl bo=>bl= .bool (Kw cm x)/\∃ bj,bo=d.drewN bj
    case first =>
     rcases j:cm.getLast? with _|m
     ·have ax:cm=[]:=List.getLast?_eq_none_iff.1 j;have B:Kw cm x=true:=by unfold Kw;rw[j]
      have M:=Lh B;subst ax;clear B j;go_quiet (fail);go_wp2;go_meet;exact⟨by rw[M.out],_,rfl⟩
     ·have B:Kw cm x=Ec m x:=by unfold Kw;rw[j]
      have M:=Lh B;have ci:0<cm.length:=by
       rcases cm with _|_
       ·simp at j
       ·simp
      obtain⟨av,bk,rfl,cb,R⟩:=Ay.BV (V:=Value.string) (fun _=>rfl) (Ay.Ea (V:=Value.string) (fun _=>rfl) O.out) (j:=cm.length-1) (by omega);have U:cm[cm.length-1]=m:=by
       have:=List.getLast?_eq_getElem? (l:=cm);rw[j,Ah (by omega)] at this;injection this with this;exact this.symm
      rw[U] at R;have be:m.size<=1000:=aa.out m (F.out.1 m (by rw[<- U];exact Br _));have bs:((cm.length:Int)==0)=false:=by rw[Cs];omega
      have bt:(0:Int)<=(cm.length:Int)-1:=by omega
      have bu:(1:Int)<=(cm.length:Int):=by omega
      have bv:(cm.length:Int)-1<(cm.length:Int):=by omega
      have bw:((cm.length:Int)-1).toNat=cm.length-1:=by omega
      have bx:IntKind.i64.wrap ((cm.length:Int)-1)=(cm.length:Int)-1:=by rw[IntKind.wrap_i64];omega
      have bq:d.cell? ⟨av,bk+(cm.length-1),none⟩=some (.string m):=R;have h:=Lh (g.out m x);clear U j B R g;go_quiet ((go_at_call 42;exact Calls.quiet_of (h.out _ be)));go_wp2;go_meet;exact⟨by rw[M.out],_,rfl⟩
    case rest =>
     obtain⟨rfl,K,rfl⟩:=hcut;obtain⟨L,J⟩:∃ L,L=d.drewN K:=⟨_,rfl⟩
     rw[<- J];have bp:L.cell? (zA co (Y+b))=some (.string x):=by rw[J,World.cell?_drewN];exact ac
     have G:Hid (L=y.drewN (cn+K)):=Lh (by rw[J,ar.out,World.drewN_drewN]);clear J ac;rcases I:Kw cm x with _|_
     ·have D:=Lh I;clear I;go_wp2;go_roundg (gk-1)
      case measure=>omega
      case rel=>exact⟨b+1,_,c,r,by omega,by go_num,rfl,rfl,o.out.no H.out (.inl D.out),G.out⟩
     ·have D:=Lh I;clear I;rcases r with _|_
      ·go_wp2;go_roundg (gk-1)
       case measure=>omega
       case rel=>exact⟨b+1,_,x,true,by omega,by go_num,rfl,rfl,o.out.yes H.out D.out (.inl rfl),G.out⟩
      ·rcases u:Ec x c with _|_
       ·have N:=Lh u;have h:=Lh (g.out x c);rw[u] at h;clear u g;go_wp2_with (go_at_call 42;refine(h.out _ aj).mono ?_;rintro e bn ⟨rfl,X,rfl⟩);go_roundg (gk-1)
        case measure=>omega
        case rel=>exact⟨b+1,cn+K+X,c,true,by omega,by go_num,rfl,rfl,o.out.no H.out (.inr ⟨rfl,N.out⟩),by rw[G.out,World.drewN_drewN]⟩
       ·have N:=Lh u;have h:=Lh (g.out x c);rw[u] at h;clear u g;go_wp2_with (go_at_call 42;refine(h.out _ aj).mono ?_;rintro e bn ⟨rfl,X,rfl⟩);go_roundg (gk-1)
        case measure=>omega
        case rel=>exact⟨b+1,cn+K+X,x,true,by omega,by go_num,rfl,rfl,o.out.yes H.out D.out (.inr N.out),by rw[G.out,World.drewN_drewN]⟩
   ·have bc:b=l.length:=by omega
    subst bc;have bi:¬(l.length:Int)<(l.length:Int):=by omega
    clear g;rcases r with _|_
    ·have am:=Lh (F.out.lT o.out);go_wp2;go_ret;exact⟨cm,n,q,rfl,O.out,am.out,by have:=F.out.2.2.2;omega,E.out⟩
    ·obtain⟨ag,cc⟩:=F.out.more o.out;have ao:=Lh ag;have ck:=E.out.size;have cp:=O.out;clear ag;go_wp2_with (first
      |(at_builtin;go_must (refine wpList_append_lies _ (by rfl) _ _ _ (by rfl) w.heap.size 27 al _ 1 16 Tryz.underlying29 bb bf bg bh rfl (by omega) (.slice n cm.length q) _ _ (by rfl) (cp.alloc _) (zA d.heap.size 0) 1 1 [.string c] (by rfl) (by rfl) (World.news_of_block (cs:=#[.string c]) (t:=27) (fr:=(0,0)) (heap_alloc_new d _)) (by simp[Value.oneCell']) (by omega) (by unfold maxLen;omega) (by omega) (by simp;omega) (d.heap.size+1) (by simp) ?_);intro bz br cl au ba ca ch))
     go_roundg (P-1)
     case measure=>omega
     case rel =>
      refine⟨cm++[c],?_,ao.out,(E.out.alloc _).grown ba fun k z cf=>Bv (BQ cp z) (by omega)⟩;rw[Ap,Cv,Bw];exact au
end

end Go.Proofs.YtcjcndnjpedniaaGreat
