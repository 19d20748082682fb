/- A part of the proof of TopUsers. -/
import Derived.Deep.QuietTactic
import Derived.Laws.CopyOwn
import Derived.DeepKeys4
import Derived.Test.YtcjcndnjpedniaaGreatB2
namespace Go.Proofs.YtcjcndnjpedniaaGreat
set_option linter.all false
set_option maxRecDepth 100000
set_option maxHeartbeats 8000000
open Go.RowKit
def LK (l:List BB) (i:Nat):BB:=l.getD i ⟨#[]⟩
theorem KI {l:List BB} {i:Nat} (a:i<l.length):LK l i=l[i]:=by
 unfold LK;rw[CK,Ah a];rfl
def JQ (l:List BB) (i:Nat):Bool:=CX (LK l i)&&(decide (i=0)||Ec (LK l (i-1)) (LK l i))
def Kz (l:List BB) (n:Nat):Bool:=(List.range n).all (JQ l)
def D9 (l:List BB):Bool:=decide (1<=l.length)&&(decide (l.length<=16)&&Kz l l.length)
theorem KP {l:List BB} {n:Nat} (a:Kz l n=true) (b:JQ l n=true):Kz l (n+1)=true:=by
 unfold Kz at *;rw[List.range_succ,List.all_append,a];simpa using b
theorem Jq {l:List BB} {n m:Nat} (a:n<m) (b:JQ l n=false):Kz l m=false:=by
 unfold Kz;rw[Fh];intro c;have:=FY.1 c n (FQ.2 a);rw[b] at this;cases this
theorem Am.to {d b c:Bc} (a:Au d b) (k:Au b c):Au d c:=a.AJ k fun _ _ a=>a
theorem Mo {d : Type} {xs a:List d} {j:Nat} (hx:j<xs.length) (c:j<a.length) (b:xs.take j=a.take j) (e:xs[j]=a[j]):xs.take (j+1)=a.take (j+1):=by
 rw[AP hx,AP c,b,e]
theorem XB (p q:Option Addr) (z A u v:Nat) (xs b:List BB) (w:Bc) (H:xs.length<=1000000) (I:b.length<=1000000) (k:Ay Value.string w u 1 p xs) (l:Ay Value.string w v 1 q b) :
  Calls Tryz.prog 44 #[.slice p xs.length z,.slice q b.length A] w (Rt (.bool (decide (xs=b))) fun w'=>∃ n,w'=w.drewN n):=by
 by_cases e:xs.length=b.length
 ·have F:((xs.length:Int)!=(b.length:Int))=false:=by simp[e]
  have x:=Lh e;have M:xs.length<=b.length:=by omega
  clear e;go_in;go_wp2;go_loopg [5] xs.length fun gk G wr=>∃ a:Nat,a+gk=xs.length/\G=zI a/\xs.take a=b.take a/\∃ n,wr=w.drewN n
  case atStart=>exact⟨0,Bz _,rfl,rfl,0,rfl⟩
  case round =>
   obtain⟨a,L,rfl,d,n,rfl⟩:=hrel;by_cases t:a<xs.length
   ·obtain⟨J,Q,rfl,_,B⟩:=Ay.BV (fun _=>rfl) k t;obtain⟨K,R,rfl,_,C⟩:=Ay.BV (fun _=>rfl) l (j:=a) (by omega);have y:=Lh d;obtain⟨f,m⟩:∃ f,f=xs[a]:=⟨_,rfl⟩
    obtain⟨g,o⟩:∃ g,g=b[a]'(by omega):=⟨_,rfl⟩
    rw[<- m] at B;rw[<- o] at C;have r:=Lh m;have s:=Lh o;have N:(0:Int)<=(a:Int):=by omega
    have O:(a:Int)<(xs.length:Int):=by omega
    have P:(a:Int)<(b.length:Int):=by omega
    clear k l d m o;by_cases c:f=g
    ·have D:(f.toList==g.toList)=true:=by rw[bytes_beq,BH c]
     have h:=Lh c;clear c;go_wp2_with fail;go_quiet (fail);go_wp2;go_roundg (gk-1)
     case measure=>omega
     case rel=>exact⟨a+1,by omega,by go_num,Mo t (by omega) y.out (by rw[<- r.out,<- s.out,h.out]),_,rfl⟩
    ·have D:(f.toList==g.toList)=false:=by rw[bytes_beq,BC c]
     have h:=Lh c;clear c;go_wp2_with fail;go_quiet (fail);go_wp2;go_ret;refine⟨?_,n+nq,by rw[World.drewN_drewN]⟩;rw[BC]
     ·rfl
     ·intro j;refine h.out ?_;rw[r.out,s.out];simp only[j]
   ·have E:a=xs.length:=by omega
    clear k l;have i:Hid (xs=b):=by
     rw[E,Cr,Bt (by have:=x.out;omega)] at d;exact d
    clear d;go_wp2;go_ret;exact⟨by rw[BH i.out];rfl,_,rfl⟩
 ·have F:((xs.length:Int)!=(b.length:Int))=true:=by simp;omega
  have i:Hid (decide (xs=b)=false):=BC fun j=>e (by rw[j])
  clear e;go_in;go_wp2;go_ret;exact⟨by rw[i.out];rfl,0,rfl⟩

theorem Km (A:Option Addr) (c:Nat) (l:List BB) (w:Bc) (W:l.length<=1000) (H:∀ s∈l,s.size<=1000000) (G:Ay Value.string w w.heap.size 1 A l) :
  Calls Tryz.prog 122 #[.slice A l.length c] w (Rt (.bool (D9 l)) fun w'=>∃ n,w'=w.drewN n):=by
 have m:Hid (D9 l=(decide (1<=l.length)&&(decide (l.length<=16)&&Kz l l.length))):=Lh rfl;have J:=Lh H;have B:=Lh G;clear H G;by_cases z:1<=l.length
 ·have K:decide ((l.length:Int)<1)=false:=by rw[Ag];omega
  by_cases C:l.length<=16
  ·have L:decide ((16:Int)<(l.length:Int))=false:=by rw[Ag];omega
   have t:Hid (D9 l=Kz l l.length):=by
    show D9 l=_;rw[m.out,BH z,BH C];rfl
   clear m;go_in;go_wp2;go_loopg [15] l.length fun gk O wr=>∃ a:Nat,a+gk=l.length/\O=zI a/\Kz l a=true/\∃ n,wr=w.drewN n
   case atStart=>exact⟨0,Bz _,rfl,rfl,⟨0,rfl⟩⟩
   case round =>
    obtain⟨a,V,rfl,hq,n,rfl⟩:=hrel;have h:=Lh hq;clear hq;by_cases p:a<l.length
    ·obtain⟨R,o,rfl,_,D⟩:=Ay.BV (fun _=>rfl) B.out p;have hx:=J.out _ (Br p);have b:Hid (JQ l a=(CX l[a]&&(decide (a=0)||Ec (LK l (a-1)) l[a]))):=by
      show JQ l a=_;unfold JQ;rw[KI p]
     have X:(0:Int)<=(a:Int):=by omega
     have P:(a:Int)<(l.length:Int):=by omega
     by_cases j:a=0
     ·rw[BH j,Bool.true_or] at b;have M:decide ((0:Int)<(a:Int))=false:=by rw[Ag];omega
      have U:decide (0<a)=false:=dF;have T:¬0<a:=by omega
      generalize l[a]=k at D b hx;have d:=fun r=>Jk k r hx
      rcases f:CX k with _|_
      ·rw[f] at d b;have e:Hid (D9 l=false):=by
        show D9 l=false;rw[t.out];exact Jq p (by rw[b.out];rfl)
       have g:=Lh d;clear d f b h j;go_wp2_with fail;refine(g.out _).mono ?_;rintro ac x ⟨rfl,v,rfl⟩;go_wp2;go_ret;exact⟨by rw[e.out];rfl,_,rfl⟩
      ·rw[f] at d b;have e:=Lh (KP h.out (by rw[b.out];rfl));have g:=Lh d;clear d f b h j;go_wp2_with fail;refine(g.out _).mono ?_;rintro ac x ⟨rfl,v,rfl⟩;go_wp2;go_roundg (gk-1)
       case measure=>omega
       case rel=>exact⟨a+1,by omega,by go_num,e.out,_,rfl⟩
     ·obtain⟨S,ab,N,_,E⟩:=Ay.BV (fun _=>rfl) B.out (j:=a-1) (by omega);cases N;rw[KI (show a-1<l.length by omega),BC j,Bool.false_or] at b;generalize l[a]=k at D b hx;generalize l[a-1]=I at E b;have d:=fun r=>Jk k r hx
      have i:=fun r=>PT I k r
      obtain⟨q,rfl⟩:∃ q,a=q+1:=⟨a-1,by omega⟩
      rw[Nat.add_sub_cancel] at E;have M:decide ((0:Int)<((q+1:Nat):Int))=true:=by rw[Bb];omega
      have Y:(0:Int)<=(q:Int):=by omega
      have Z:(q:Int)<(l.length:Int):=by omega
      rcases f:CX k with _|_
      ·rw[f] at d b;have e:Hid (D9 l=false):=by
        show D9 l=false;rw[t.out];exact Jq p (by rw[b.out];rfl)
       have g:=Lh d;clear d i f b h j;go_wp2_with fail;refine(g.out _).mono ?_;rintro ac x ⟨rfl,v,rfl⟩;go_wp2;go_ret;exact⟨by rw[e.out];rfl,_,rfl⟩
      ·rw[f] at d b;rcases u:Ec I k with _|_
       ·rw[u] at i b;have e:Hid (D9 l=false):=by
         show D9 l=false;rw[t.out];exact Jq p (by rw[b.out];rfl)
        have g:=Lh d;have y:=Lh i;clear d i f u b h j;go_wp2_with fail;refine(g.out _).mono ?_;rintro ac x ⟨rfl,v,rfl⟩;go_wp2_with fail;refine(y.out _).mono ?_;rintro ac Q ⟨rfl,rfl⟩;go_wp2;go_ret;exact⟨by rw[e.out];rfl,_,rfl⟩
       ·rw[u] at i b;have e:=Lh (KP h.out (by rw[b.out];rfl));have g:=Lh d;have y:=Lh i;clear d i f u b h j;go_wp2_with fail;refine(g.out _).mono ?_;rintro ac x ⟨rfl,v,rfl⟩;go_wp2_with fail;refine(y.out _).mono ?_;rintro ac Q ⟨rfl,rfl⟩;go_wp2;go_roundg (gk-1)
        case measure=>omega
        case rel=>exact⟨q+1+1,by omega,by go_num,e.out,_,rfl⟩
    ·have F:a=l.length:=by omega
     have P:¬(a:Int)<(l.length:Int):=by omega
     have e:Hid (D9 l=true):=by
      show D9 l=true;rw[t.out,<- F];exact h.out
     clear h F;go_wp2;go_ret;exact⟨by rw[e.out];rfl,n,rfl⟩
  ·have L:decide ((16:Int)<(l.length:Int))=true:=by rw[Bb];omega
   have e:Hid (D9 l=false):=by
    show D9 l=_;rw[m.out,BH z,BC C];rfl
   clear m;go_in;go_wp2;go_ret;exact⟨by rw[e.out];rfl,0,rfl⟩
 ·have K:decide ((l.length:Int)<1)=true:=by rw[Bb];omega
  have e:Hid (D9 l=false):=by
   show D9 l=_;rw[m.out,BC z];rfl
  clear m;go_in;go_wp2;go_ret;exact⟨by rw[e.out];rfl,0,rfl⟩
theorem dI (A:Option Addr) (c:Nat) (l:List BB) (w:Bc) (aj:l.length<=1000) (U:∀ s∈l,s.size<=1000000) (T:Ay Value.string w w.heap.size 1 A l) :
  Calls Tryz.prog 19 #[.slice A l.length c] w (Rt (.bool (D9 l)) (Au w)):=by
 have B:Hid (D9 l=(decide (1<=l.length)&&(decide (l.length<=16)&&Kz l l.length))):=Lh rfl;have O:=Lh U;have V:=Lh T;clear U T;by_cases J:1<=l.length
 ·have W:decide ((l.length:Int)<1)=false:=by rw[Ag];omega
  by_cases R:l.length<=16
  ·have X:decide ((16:Int)<(l.length:Int))=false:=by rw[Ag];omega
   have I:Hid (D9 l=Kz l l.length):=by
    show D9 l=_;rw[B.out,BH J,BH R];rfl
   clear B;go_in;go_wp2;go_loopg [3] l.length fun gk i wr=>∃ b:Nat,b+gk=l.length/\i=zI b/\Kz l b=true/\Au w wr
   case atStart=>exact⟨0,Bz _,rfl,rfl,Aa _ _⟩
   case round =>
    obtain⟨b,ai,rfl,hq,e⟩:=hrel;have t:=Lh hq;clear hq;by_cases F:b<l.length
    ·have C:=V.out.AB e;obtain⟨g,h,rfl,q,m⟩:=Ay.BV (fun _=>rfl) C F;have hx:=O.out _ (Br F);have k:Hid (JQ l b=(CX l[b]&&(decide (b=0)||Ec (LK l (b-1)) l[b]))):=by
      show JQ l b=_;unfold JQ;rw[KI F]
     have ak:(0:Int)<=(b:Int):=by omega
     have ab:(b:Int)<(l.length:Int):=by omega
     rcases u:CX l[b] with _|_
     ·rw[u] at k;have n:Hid (D9 l=false):=by
       show D9 l=false;rw[I.out];exact Jq F (by rw[k.out];rfl)
      have am:=fun j=>Qp l[b] j hx
      rw[u] at am;clear k u;generalize l[b]=z at m hx am;have v:=Lh am;clear am C t;go_wp2;refine GZ (fun j=>Cl j g (h+b) (.string z)) m fun a=>?_
      refine hq 0 18 a ?_;refine hq 1 19 a ?_;refine hq 2 20 a ?_;refine hq 3 21 a ?_;refine Gg 4 fun o e=>?_
      go_simp;go_at_call 18;refine(v.out _).mono ?_;rintro D y ⟨rfl,f⟩;go_wp2;refine e.out _ _ ((f.cell (p:=zA g (h+b)) q id).trans m) fun a=>?_
      clear e o;refine hq 5 23 a ?_;refine hq 6 24 a ?_;refine hsA 7 25 a ?_;refine hsA 8 26 a ?_;refine hsA 9 27 a ?_;refine hsA 10 28 a ?_;refine hsA 11 29 a ?_;refine hsA 12 30 a ?_;refine hsA 13 31 a ?_;refine hsA 14 32 a ?_;refine hsA 15 33 a ?_;refine hsA 16 34 a ?_;refine hsA 17 35 a ?_;refine hsA 18 36 a ?_;refine hsA 19 37 a ?_;refine hsA 20 38 a ?_;refine hsA 21 39 a ?_;refine hq 22 40 a ?_;refine zw ?_;have x:Au w y:=e.drew.to f;go_wp2;go_ret;exact⟨by rw[n.out];rfl,x⟩
     ·rw[u] at k;have am:=fun j=>Qp l[b] j hx
      rw[u] at am;by_cases E:b=0
      ·rw[BH E,Bool.true_or] at k;have n:=Lh (KP t.out (by rw[k.out];rfl));have P:decide ((0:Int)<(b:Int))=false:=by rw[Ag];omega
       have Q:decide (0<b)=false:=dF;have ah:¬0<b:=by omega
       clear k u;generalize l[b]=z at m hx am;have v:=Lh am;clear am C t E;go_wp2;refine GZ (fun j=>Cl j g (h+b) (.string z)) m fun a=>?_
       refine hq 0 18 a ?_;refine hq 1 19 a ?_;refine hq 2 20 a ?_;refine hq 3 21 a ?_;refine Gg 4 fun o e=>?_
       go_simp;go_at_call 18;refine(v.out _).mono ?_;rintro D y ⟨rfl,f⟩;go_wp2;refine e.out _ _ ((f.cell (p:=zA g (h+b)) q id).trans m) fun a=>?_
       clear e o;refine hq 5 23 a ?_;refine hq 6 24 a ?_;refine hq 7 25 a ?_;refine hq 8 26 a ?_;refine hq 9 27 a ?_;refine hsA 10 28 a ?_;refine hsA 11 29 a ?_;refine hsA 12 30 a ?_;refine hsA 13 31 a ?_;refine hsA 14 32 a ?_;refine hsA 15 33 a ?_;refine hsA 16 34 a ?_;refine hsA 17 35 a ?_;refine hsA 18 36 a ?_;refine hsA 19 37 a ?_;refine hsA 20 38 a ?_;refine hq 21 39 a ?_;refine hq 22 40 a ?_;refine zw ?_;have x:Au w y:=e.drew.to f;go_wp2;go_roundg (gk-1)
       case measure=>omega
       case rel=>exact⟨b+1,by omega,by go_num,n.out,x⟩
      ·obtain⟨ag,al,Z,_,r⟩:=Ay.BV (fun _=>rfl) C (j:=b-1) (by omega);cases Z;have L:=O.out _ (Br (show b-1<l.length by omega));rw[KI (show b-1<l.length by omega),BC E,Bool.false_or,Bool.true_and] at k;have p:=fun j=>Rz l[b-1] l[b] j L
       rcases G:Ec l[b-1] l[b] with _|_
       ·rw[G] at p k;have n:Hid (D9 l=false):=by
         show D9 l=false;rw[I.out];exact Jq F (by rw[k.out])
        clear k u G;generalize l[b]=z at m hx am p;generalize l[b-1]=N at r L p;obtain⟨d,K⟩:∃ d,b=d+1:=⟨b-1,by omega⟩
        rw[show b-1=d by omega] at r;have ac:(0:Int)<=(d:Int):=by omega
        have ad:(d:Int)<(l.length:Int):=by omega
        have P:decide ((0:Int)<(b:Int))=true:=by rw[Bb];omega
        have Q:decide (0<b)=true:=by rw[Bb];omega
        have Y:0<b:=by omega
        have M:IntKind.i64.wrap ((b:Int)-1)=(d:Int):=by rw[IntKind.wrap_i64];omega
        have v:=Lh am;have H:=Lh p;clear am p C t E K;go_wp2;refine GZ (fun j=>Cl j g (h+b) (.string z)/\Cl j g (h+d) (.string N)) ⟨m,r⟩ fun a=>?_
        refine hq 0 18 a ?_;refine hq 1 19 a ?_;refine hq 2 20 a ?_;refine hq 3 21 a ?_;refine Gg 4 fun o e=>?_
        go_simp;go_at_call 18;refine(v.out _).mono ?_;rintro D y ⟨rfl,f⟩;go_wp2;refine e.out _ _ ⟨(f.cell (p:=zA g (h+b)) q id).trans m,(f.cell (p:=zA g (h+d)) q id).trans r⟩ fun a=>?_
        clear e o;refine hq 5 23 a ?_;refine hq 6 24 a ?_;refine hq 7 25 a ?_;refine hq 8 26 a ?_;refine hq 9 27 a ?_;refine hq 10 28 a ?_;refine hq 11 29 a ?_;refine hq 12 30 a ?_;refine hq 13 31 a ?_;refine hq 14 32 a ?_;refine hq 15 33 a ?_;refine hq 16 34 a ?_;refine hq 17 35 a ?_;refine hq 18 36 a ?_;refine Gg 19 fun o e=>?_
        go_simp;go_at_call 42;refine(H.out _).mono ?_;rintro D af ⟨rfl,ae,rfl⟩;go_wp2;refine e.out _ _ ⟨(f.cell (p:=zA g (h+b)) q id).trans m,(f.cell (p:=zA g (h+d)) q id).trans r⟩ fun a=>?_
        clear e o;refine hq 20 38 a ?_;refine hq 21 39 a ?_;refine hq 22 40 a ?_;refine zw ?_;have x:Au w y:=e.drew.to f;go_wp2;go_ret;exact⟨by rw[n.out];rfl,x.drewN _⟩
       ·rw[G] at p k;have n:=Lh (KP t.out (by rw[k.out]));clear k u G;generalize l[b]=z at m hx am p;generalize l[b-1]=N at r L p;obtain⟨d,K⟩:∃ d,b=d+1:=⟨b-1,by omega⟩
        rw[show b-1=d by omega] at r;have ac:(0:Int)<=(d:Int):=by omega
        have ad:(d:Int)<(l.length:Int):=by omega
        have P:decide ((0:Int)<(b:Int))=true:=by rw[Bb];omega
        have Q:decide (0<b)=true:=by rw[Bb];omega
        have Y:0<b:=by omega
        have M:IntKind.i64.wrap ((b:Int)-1)=(d:Int):=by rw[IntKind.wrap_i64];omega
        have v:=Lh am;have H:=Lh p;clear am p C t E K;go_wp2;refine GZ (fun j=>Cl j g (h+b) (.string z)/\Cl j g (h+d) (.string N)) ⟨m,r⟩ fun a=>?_
        refine hq 0 18 a ?_;refine hq 1 19 a ?_;refine hq 2 20 a ?_;refine hq 3 21 a ?_;refine Gg 4 fun o e=>?_
        go_simp;go_at_call 18;refine(v.out _).mono ?_;rintro D y ⟨rfl,f⟩;go_wp2;refine e.out _ _ ⟨(f.cell (p:=zA g (h+b)) q id).trans m,(f.cell (p:=zA g (h+d)) q id).trans r⟩ fun a=>?_
        clear e o;refine hq 5 23 a ?_;refine hq 6 24 a ?_;refine hq 7 25 a ?_;refine hq 8 26 a ?_;refine hq 9 27 a ?_;refine hq 10 28 a ?_;refine hq 11 29 a ?_;refine hq 12 30 a ?_;refine hq 13 31 a ?_;refine hq 14 32 a ?_;refine hq 15 33 a ?_;refine hq 16 34 a ?_;refine hq 17 35 a ?_;refine hq 18 36 a ?_;refine Gg 19 fun o e=>?_
        go_simp;go_at_call 42;refine(H.out _).mono ?_;rintro D af ⟨rfl,ae,rfl⟩;go_wp2;refine e.out _ _ ⟨(f.cell (p:=zA g (h+b)) q id).trans m,(f.cell (p:=zA g (h+d)) q id).trans r⟩ fun a=>?_
        clear e o;refine hq 20 38 a ?_;refine hq 21 39 a ?_;refine hq 22 40 a ?_;refine zw ?_;have x:Au w y:=e.drew.to f;go_wp2;go_roundg (gk-1)
        case measure=>clear M;omega
        case rel=>clear M;exact⟨b+1,by omega,by go_num,n.out,x.drewN _⟩
    ·have S:b=l.length:=by omega
     have ab:¬(b:Int)<(l.length:Int):=by omega
     have n:Hid (D9 l=true):=by
      show D9 l=true;rw[I.out,<- S];exact t.out
     clear t S;go_wp2;go_ret;exact⟨by rw[n.out];rfl,e⟩
  ·have X:decide ((16:Int)<(l.length:Int))=true:=by rw[Bb];omega
   have n:Hid (D9 l=false):=by
    show D9 l=_;rw[B.out,BH J,BC R];rfl
   clear B;go_in;go_wp2;go_ret;exact⟨by rw[n.out];rfl,Aa _ _⟩
 ·have W:decide ((l.length:Int)<1)=true:=by rw[Bb];omega
  have n:Hid (D9 l=false):=by
   show D9 l=_;rw[B.out,BC J];rfl
  clear B;go_in;go_wp2;go_ret;exact⟨by rw[n.out];rfl,Aa _ _⟩

section
open Go.Maps (Keyed)
theorem oW:laidOutB Tryz.prog=true:=by kernel_rfl
structure Qu where
 obj:Int
 op:Int
 who:List BB
def Ns (l:List BB):List BB:=l.take 16++List.replicate (16-l.length) ⟨#[]⟩
theorem Kk (l:List BB):(Ns l).length=16:=by unfold Ns;simp;omega
def Vf (q:Qu):List Value:=.int .i64 q.obj::.int .i64 q.op::(Ns q.who).map Value.string
def Mg (q:Qu):Array Value:=(Vf q).toArray
def Sk (q:Qu):Value:=.agg (Mg q)
theorem Cy (q:Qu):(Mg q).size=18:=by unfold Mg Vf;simp[Kk]
theorem jD (q:Qu):∀ v∈Vf q,v.oneCell'=true:=fun v a=>by
 unfold Vf at a;simp only[BI,Bp] at a;rcases a with rfl|rfl|⟨b,_,rfl⟩<;>rfl
def Uj:Qu:=⟨0,0,[]⟩
def jE (q:Qu):Prop:=i64 q.obj/\i64 q.op/\∀ a∈q.who,a.size<=maxLen
theorem L6:Keyed Tryz.prog 370:=Keyed.of_law (deep_law_laid oW (m:=4) (by omega) (of_decide_eq_true (by kernel_rfl)) (by kernel_rfl) (by kernel_rfl))
theorem mapM_some {e j : Type} {f:e->Option j}:∀ {l:List e},(∀ a∈l,∃ b,f a=some b)->∃ c,l.mapM f=some c
 |[],_=>⟨[],by simp⟩
 |a::l,d=>by
  obtain⟨b,g⟩:=d a (by simp);obtain⟨c,h⟩:=mapM_some (l:=l) fun i hx=>d i (by simp[hx])
  exact⟨b::c,by simp[List.mapM_cons,g,h]⟩
theorem wf_i64 {a:Int} (b:i64 a):(Lit.int .i64 a).wf=true:=WalkArith.wf_i64 b
theorem Tu:Tryz.prog.cellsOf 370=18:=by kernel_rfl
theorem QR:Tryz.prog.cellsOf 367=2:=by kernel_rfl
theorem Mi:Tryz.prog.cellsOf 368=16:=by kernel_rfl
theorem ZC:Tryz.prog.cellsOf 27=1:=by kernel_rfl
theorem Tt:Tryz.prog.cellsOf 3=1:=by kernel_rfl
theorem PN {n:Nat} {a:Int} (b:i64 a):Tryz.prog.keyLits (n+1) 3 [.int .i64 a]=some [.int .i64 a]:=by
 simp[Program.keyLits,Tryz.underlying3,wf_i64 b]
theorem iL {n:Nat} {s:BB} (a:s.size<=maxLen):Tryz.prog.keyLits (n+1) 27 [.string s]=some [.string s.data.toList]:=by
 simp[Program.keyLits,Tryz.underlying27,a]
theorem lZ {n:Nat} {a b:Int} (c:i64 a) (d:i64 b):∃ l,Tryz.prog.keyLits (n+2) 367 [.int .i64 a,.int .i64 b]=some l:=by
 unfold Program.keyLits;simp only[Tryz.underlying367,QR,Tt,BF,CV,if_true];refine⟨[.int .i64 a,.int .i64 b],?_⟩;simp[List.range_succ,PN c,PN d]
theorem VK {n:Nat} {l:List BB} (c:l.length=16) (e:∀ s∈l,s.size<=maxLen):∃ x,Tryz.prog.keyLits (n+2) 368 (l.map Value.string)=some x:=by
 unfold Program.keyLits;simp only[Tryz.underlying368,Mi,ZC,Be,c,if_true];obtain⟨d,g⟩:=mapM_some (f:=fun a=>Tryz.prog.keyLits (n+1) 27 (((l.map Value.string).drop (a*1)).take 1)) (l:=List.range 16) fun a h=>by
  have b:a<l.length:=by rw[c];exact FQ.1 h
  refine⟨[.string l[a].data.toList],?_⟩;rw[Fy,Fa (by simpa using b),Gb,Ei,List.getElem_map];exact iL (e _ (Br b))
 exact⟨d.flatten,by rw[g];rfl⟩
theorem jB {l:List BB} (b:∀ s∈l,s.size<=maxLen):∀ s∈Ns l,s.size<=maxLen:=fun s a=>by
 unfold Ns at a;rcases Bd.1 a with a|a
 ·exact b s (FP a)
 ·rw[List.eq_of_mem_replicate a];unfold maxLen;decide
theorem Qz:Tryz.prog.types.size+1=(Tryz.prog.types.size-3)+4:=by kernel_rfl
theorem types_size:∃ a,Tryz.prog.types.size+1=a+4:=⟨_,Qz⟩
theorem iJ:Tryz.prog.keyType 370=true:=by kernel_rfl
theorem oV {n:Nat} {q:Qu} (a:jE q):∃ l,Tryz.prog.keyLits (n+3) 370 (Vf q)=some l:=by
 obtain⟨g,b⟩:=lZ (n:=n) a.1 a.2.1;obtain⟨h,c⟩:=VK (n:=n) (Kk q.who) (jB a.2.2);refine⟨g++h,?_⟩;have f:(Vf q).length=18:=by unfold Vf;simp[Kk]
 have d:(Vf q).take 2=[.int .i64 q.obj,.int .i64 q.op]:=rfl;have e:((Vf q).drop 2).take 16=(Ns q.who).map Value.string:=by
  show((Ns q.who).map Value.string).take 16=_;rw[Bt (by simp[Kk])]
 rw[<- d] at b;rw[<- e] at c;unfold Program.keyLits;simp[Tryz.underlying370,Tu,QR,Mi,f,b,c]
theorem PL {q:Qu} (b:jE q):MO Tryz.prog 370 (Sk q):=by
 obtain⟨a,c⟩:=types_size;obtain⟨e,d⟩:=oV (n:=a+1) b;refine⟨.string (keyBytes e),?_⟩;unfold keyOf;rw[Tryz.underlying370,c];simp[Value.formed,Tryz.underlying370,Tu,iJ,Value.cells,Sk,Cy];simp[Mg,d]
theorem Cm {l:List BB} (a:D9 l=true):1<=l.length/\l.length<=16/\∀ s∈l,CX s=true:=by
 unfold D9 at a;simp only[De,Bb] at a;obtain⟨c,d,e⟩:=a;refine⟨c,d,fun s f=>?_⟩;obtain⟨g,b,rfl⟩:=CQ f;have:=FY.1 e g (FQ.2 b);unfold JQ at this;rw[KI b] at this;exact(Bool.and_eq_true_iff.1 this).1
theorem Uc {s:BB} (a:CX s=true):0<s.size:=by
 unfold CX Cc at a;simp only[De,Bb] at a;omega
theorem Ru {a:List BB} (ha:D9 a=true):(Ns a).filter (fun s=>decide (0<s.size))=a:=by
 obtain⟨e,c,d⟩:=Cm ha;unfold Ns;rw[Bt c,List.filter_append,List.filter_eq_self.2 fun s b=>BH (Uc (d s b)),List.filter_eq_nil_iff.2 fun s b=>by
  rw[List.eq_of_mem_replicate b];decide,Dc]
theorem bZ {a b:List BB} (ha:D9 a=true) (d:D9 b=true) (c:Ns a=Ns b):a=b:=by
 rw[<- Ru ha,<- Ru d,c]
theorem Sl {p q:Qu} (ha:D9 p.who=true) (e:D9 q.who=true) (a:Sk p=Sk q):p=q:=by
 unfold Sk Mg at a;injection a with a;have a:=List.toArray_inj a;unfold Vf at a;injection a with b a;injection a with c a;injection b with _ b;injection c with _ c;have d:Ns p.who=Ns q.who:=List.map_inj_right (fun m n f=>by injection f) |>.1 a;obtain⟨g,h,i⟩:=p;obtain⟨j,k,l⟩:=q;simp only at b c d ha e;rw[b,c,bZ ha e d]
end
def Q8 (b p:Int) (a:List BB):Qu:=if D9 a then⟨b,p,a⟩ else Uj
theorem ES:(Tryz.prog.info? 370).map (·.size)=some 18:=by kernel_rfl
theorem XM:(Tryz.prog.info? 27).map (·.size)=some 1:=by kernel_rfl
theorem Ie (q:Qu):(Mg q).all (·.oneCell')=true:=all_oneCell_toArray (jD q)
theorem YC {b:List BB} {a p:Int} (d:D9 b=true):(splice (Vf ⟨a,p,[]⟩) 2 (b.map Value.string)).toArray=Mg ⟨a,p,b⟩:=by
 obtain⟨f,e,_⟩:=Cm d;have c:Vf ⟨a,p,[]⟩=[zI a,zI p]++List.replicate 16 (zE):=rfl;unfold Mg
 congr 1
 unfold splice;rw[c];unfold Vf Ns;rw[Bt e,Be,Bw,List.map_replicate,List.drop_append,List.drop_of_length_le (by simp),List.drop_replicate];simp only[BF,CV,BU,Df,Gb,Ei]
 congr 5
 omega
theorem QJ (d p v t:Int) (A:Option Addr) (c:Nat) (a:List BB) (w:Bc) (an:a.length<=1000) (O:∀ s∈a,s.size<=1000000) (H:Ay Value.string w w.heap.size 1 A a) :
  Calls Tryz.prog 254 #[.agg #[zI d,zI p,.slice A a.length c,zI v,zI t]] w (Rt (.tuple #[Sk (Q8 d p a),.bool (D9 a)]) (Au w)):=by
 have E:∀ o r,Au w ((w.alloc o).alloc r):=fun o r=>((Aa _ w).alloc o).alloc r
 have k:=fun o r=>Km A c a ((w.alloc o).alloc r) an O (H.AB (E o r))
 have m:Hid (Q8 d p a=if D9 a then⟨d,p,a⟩ else Uj):=Lh rfl;have ae:=Lh H;have M:=fun g=>Lh ((AX.new w 330 #[zI d,zI p,.slice A a.length c,zI v,zI t]).alloc (.cells #[zO,zO,zE,zE,zE,zE,zE,zE,zE,zE,zE,zE,zE,zE,zE,zE,zE,zE] 370) |>.drewN g)
 have z:∀ g,Hid (AX (((w.alloc (.cells #[zI d,zI p,.slice A a.length c,zI v,zI t] 330)).alloc (.cells #[zO,zO,zE,zE,zE,zE,zE,zE,zE,zE,zE,zE,zE,zE,zE,zE,zE,zE] 370)).drewN g) (w.heap.size+1) 370 (Mg Uj)):=fun g=>Lh (by have be:=(AX.new (w.alloc (.cells #[zI d,zI p,.slice A a.length c,zI v,zI t] 330)) 370 #[zO,zO,zE,zE,zE,zE,zE,zE,zE,zE,zE,zE,zE,zE,zE,zE,zE,zE]).drewN g;rw[World.size_alloc] at be;exact be)
 have C:=fun g=>Lh ((E (.cells #[zI d,zI p,.slice A a.length c,zI v,zI t] 330) (.cells #[zO,zO,zE,zE,zE,zE,zE,zE,zE,zE,zE,zE,zE,zE,zE,zE,zE,zE] 370)).drewN g)
 have D:∀ g,Hid ((((w.alloc (.cells #[zI d,zI p,.slice A a.length c,zI v,zI t] 330)).alloc (.cells #[zO,zO,zE,zE,zE,zE,zE,zE,zE,zE,zE,zE,zE,zE,zE,zE,zE,zE] 370)).drewN g).heap.size=w.heap.size+2):=fun g=>Lh (by simp)
 rcases n:D9 a with _|_
 ·rw[n] at k m;have L:=Lh k;have N:Hid (Q8 d p a=Uj):=m.out;clear k n H O E m;go_in;go_wp2_with fail;refine(L.out _ _).mono ?_;rintro e bd ⟨rfl,h,rfl⟩;have bf:=z h;have l:=C h;have y:=D h;clear M z C D;generalize ((w.alloc (.cells #[zI d,zI p,.slice A a.length c,zI v,zI t] 330)).alloc (.cells #[zO,zO,zE,zE,zE,zE,zE,zE,zE,zE,zE,zE,zE,zE,zE,zE,zE,zE] 370)).drewN h=bd at bf l y ⊢;have ar:=bf.out;go_wp2_with (refine Bo rfl (.tmp 2) (.tmp 9) rfl rfl (cs':=Mg Uj) rfl ar ES rfl (Ie Uj) ?_;intro j I G P);refine bodyPost_ret (v:=.tuple #[Sk Uj,.bool false]) (CB (p:=2) (q:=3) Tryz.results254 _ rfl rfl I Tryz.underlying370 rfl ES) rfl ⟨by rw[N.out],?_⟩;exact l.out.AJ G fun f i be=>by omega
 ·rw[n] at k m;have L:=Lh k;have N:Hid (Q8 d p a=⟨d,p,a⟩):=m.out;have ad:=Lh n;obtain⟨_,ao,_⟩:=Cm n;clear k n H O E m;go_in;go_wp2_with fail;refine(L.out _ _).mono ?_;rintro e bd ⟨rfl,h,rfl⟩;have bg:=M h;have bf:=z h;have l:=C h;have y:=D h;clear M z C D;generalize ((w.alloc (.cells #[zI d,zI p,.slice A a.length c,zI v,zI t] 330)).alloc (.cells #[zO,zO,zE,zE,zE,zE,zE,zE,zE,zE,zE,zE,zE,zE,zE,zE,zE,zE] 370)).drewN h=bd at bg bf l y ⊢;have af:Cl bd w.heap.size 0 (zI d):=bg.out.cell 0;have ag:Cl bd w.heap.size 1 (zI p):=bg.out.cell 1;have az:w.heap.size+2<=bd.heap.size:=by have:=y.out;omega
  have W:Hid (AX (bd.alloc (.cells #[zO,zO,zE,zE,zE,zE,zE,zE,zE,zE,zE,zE,zE,zE,zE,zE,zE,zE] 370)) bd.heap.size 370 (Mg Uj)):=Lh (AX.new bd _ _);go_wp2_with (refine Bo rfl (.tmp 4) (.tmp 15) rfl rfl (cs':=Mg ⟨d,p,[]⟩) rfl W.out ES rfl (Ie _) ?_;intro j I G P);have F:Am (fun f=>f=bd.heap.size) bd j:=((Aa _ bd).alloc _).AJ G fun f i be=>be
  have ah:Cl j w.heap.size 2 (.slice A a.length c):=(F.cell (p:=zA w.heap.size 2) (by show w.heap.size<_;omega) (by show ¬w.heap.size=_;omega)).trans (bg.out.cell 2);have ab:j.heap.size=bd.heap.size+1:=by rw[P];simp
  have U:=ae.out.AB (l.out.AJ F fun f i be=>by omega);have aw:=Lh ab;clear ab P G W af ag;have T:Hid (0<(a.map Value.string).length->(some (zA bd.heap.size 2):Option Addr)=some (zA bd.heap.size 2)/\∃ V,A=some V/\∀ J v,(a.map Value.string)[J]?= some v->j.drew.cell? (V.add J)=some v):=by
   intro be;obtain⟨b,ba,aj,_,aa⟩:=U.cells (size:=1) (fun _=>rfl) (by omega) (by simpa using be);rw[I8 fun _=>rfl] at aa;exact⟨rfl,_,aj,fun J u ap=>by rw[Addr.add_lit];exact aa J u ap⟩
  have R:Hid ((a.map Value.string).length=Nat.min a.length 16):=by
   show(a.map Value.string).length=Nat.min a.length 16;rw[Be];exact(EL ao).symm
  have Q:Hid (2+(a.map Value.string).length<=(Vf ⟨d,p,[]⟩).length):=by
   show 2+(a.map Value.string).length<=(Vf ⟨d,p,[]⟩).length;rw[Be];show 2+a.length<=18;omega
  have S:Hid (∀ v∈a.map Value.string,v.oneCell'=true):=fun v aq=>by obtain⟨x,_,rfl⟩:=Bp.1 aq;rfl
  go_region_law (refine step_copy_splice rfl (.tmp 17) (.tmp 19) 28 29 rfl 27 Tryz.underlying28 XM (some (zA bd.heap.size 2)) A 16 16 a.length c rfl rfl bd.heap.size 2 (Vf ⟨d,p,[]⟩) 370 I (a.map Value.string) R.out T.out Q.out S.out bd.heap.size _ (Below.refl _ _) (AY _) ?_;intro K ac Z);have al:AX K bd.heap.size 370 (Mg ⟨d,p,a⟩):=by
   have be:=ac.out;rw[YC ad.out] at be;exact be
  have Y:Am (fun f=>bd.heap.size<=f) j K:=((Aa _ j).drew).AJ (Am.of_below (B:=bd.heap.size) Z) fun f i be=>be
  have X:Am (fun f=>bd.heap.size<=f) bd K:=(F.mono fun f i be=>by omega).AJ Y fun f i be=>be
  have ak:AX K (w.heap.size+1) 370 (Mg Uj):=bf.out.Ab X (by omega);clear ac Z Y I ah T R Q S U F;go_wp2_with (first
   |(refine AA rfl (.tmp 4) rfl rfl al Tryz.underlying370 rfl (by rw[Cy];exact ES) ?_)
   |(refine Bo rfl (.tmp 2) (.tmp 21) rfl rfl rfl ak (by rw[Cy];exact ES) (by rw[Cy,Cy]) (Ie _) ?_;intro bb au am ay))
  refine bodyPost_ret (v:=.tuple #[Sk ⟨d,p,a⟩,.bool true]) (CB (p:=2) (q:=3) Tryz.results254 _ rfl rfl au Tryz.underlying370 rfl (by rw[Cy];exact ES)) rfl ⟨by rw[N.out],?_⟩;exact(l.out.AJ X fun f i be=>by omega).AJ am fun f i be=>by omega

section
open Go.Maps (Keyed)
structure Iu where
 q:Qu
 told:Int
 Hq:Int
 turn:Int
 till:Int
@[irreducible] def wu (u:Int):Int:=(u+9223372036854775808)%18446744073709551616-9223372036854775808
theorem wu_small {u:Int} (h:0<=u) (h2:u<=9223372036854775807):wu u=u:=by unfold wu;omega
theorem YY (u:Int):-9223372036854775808<=wu u/\wu u<=9223372036854775807:=by unfold wu;omega
theorem kE {u:Int} (a:wu u<9223372036854775807):wu u+1=wu (u+1):=by unfold wu at a ⊢;omega
theorem fE {u:Int} (a:wu u=9223372036854775807):-9223372036854775808=wu (u+1):=by unfold wu at a ⊢;omega
def Pn (x:Iu) (u:Int):Value:=.agg #[zI x.told,zI x.Hq,zI x.turn,zI x.till,zI (wu u)]
def Il (y:Iu × Int):Value × Value:=(Sk y.1.q,Pn y.1 y.2)
def kQ (x:Iu):Prop:=D9 x.q.who=true/\jE x.q
structure Da (w:Bc) (p mb:Nat) (room uses:Int) (Y:List (Iu × Int)):Prop where
 BR:AX w p 242 #[zI room,zI (wu uses),.map (some mb)]
 map:∃ l,Cw w Tryz.prog 370 mb l/\l.Perm (Y.map Il)
 rise:Y.Pairwise fun a b=>a.2<b.2
 all:∀ y∈Y,y.2<=uses/\kQ y.1
 nn:0<=uses
 pos:∀ y∈Y,0<=y.2
section
variable {w w':Bc} {p mb:Nat} {room uses:Int} {Y:List (Iu × Int)}
def Pe (p mb:Nat):Nat->Prop:=fun a=>a=p∨a=mb
theorem Da.Ab {S:Nat->Prop} (a:Da w p mb room uses Y) (b:Am S w w') (c:¬S p) (d:¬S mb):Da w' p mb room uses Y:=by
 obtain⟨g,e,f⟩:=a.map;exact⟨a.BR.Ab b c,⟨g,e.Ab b d,f⟩,a.rise,a.all,a.nn,a.pos⟩
theorem Da.AB (a:Da w p mb room uses Y) (b:Au w w'):Da w' p mb room uses Y:=a.Ab b id id
theorem Da.drewN (a:Da w p mb room uses Y) (n:Nat):Da (w.drewN n) p mb room uses Y:=a.AB ((Aa _ w).drewN n)
theorem Da.lt (a:Da w p mb room uses Y):p<w.heap.size/\mb<w.heap.size:=by
 obtain⟨c,b,_⟩:=a.map;exact⟨a.BR.lt,b.lt⟩
theorem Da.ne (a:Da w p mb room uses Y):p≠mb:=by
 obtain⟨c,b,_⟩:=a.map;exact b.Ee a.BR
theorem Da.cells (a:Da w p mb room uses Y):Cl w p 0 (zI room)/\Cl w p 1 (zI (wu uses))/\Cl w p 2 (.map (some mb)) :=
 ⟨a.BR.cell 0,a.BR.cell 1,a.BR.cell 2⟩
theorem Da.keys (a:Da w p mb room uses Y):Y.Pairwise (fun d b=>d.1.q≠b.1.q):=by
 obtain⟨i,f,h⟩:=a.map;have c:=h.pairwise f.nodup fun {_ _} a=>BZ a
 rw[Gw] at c;exact c.imp fun g e=>g (by unfold Il;rw[e])
theorem gX {l:List (Value × Value)} (a:l.Perm (Y.map Il)):l.length=Y.length:=by
 rw[a.length_eq,Be]
theorem Da.used (a:Da w p mb room uses Y) {u:Int} (b:uses<=u):Da (w.setCell (zA p 1) (zI (wu u))) p mb room u Y:=by
 obtain⟨g,e,f⟩:=a.map;exact⟨a.BR.Dw 1 _,⟨g,e.far (p:=zA p 1) a.ne _,f⟩,a.rise,fun d c=>⟨Int.le_trans (a.all d c).1 b,(a.all d c).2⟩,Int.le_trans a.nn b,a.pos⟩
theorem SB (a:Da w p mb room uses Y) :
  Calls Tryz.prog 255 #[zP p] w (Rt (zI (wu (uses+1))) fun w'=>Da w' p mb room (uses+1) Y/\Am (fun k=>k=p) w w'):=by
 obtain⟨i,j,l⟩:=a.cells;have o:=a.BR.frozen 1;have q:=a.nn;have d:=Lh (a.used (u:=uses+1) (by omega));have e:Hid (Am (fun k=>k=p) w (w.setCell (zA p 1) (zI (wu (uses+1))))):=Lh ((Aa (fun k=>k=p) w).setCell (p:=zA p 1) (fun _=>rfl) _);have f:=YY uses;have c:=Lh fun a=>kE (u:=uses) a
 have b:=Lh fun a=>fE (u:=uses) a
 clear i l a;generalize wu (uses+1)=n at d e c b;generalize wu uses=h at j c b f;by_cases g:h<9223372036854775807
 ·obtain rfl:=c.out g;clear c b;go_in;go_wp2;go_ret;exact⟨rfl,d.out,e.out⟩
 ·obtain rfl:h=9223372036854775807:=by omega
  have m:wrap64 9223372036854775808=n:=(by kernel_rfl:wrap64 9223372036854775808 = -9223372036854775808).trans (b.out rfl);subst m;clear c b g f;go_in;go_wp2;go_ret;exact⟨rfl,d.out,e.out⟩
end
def fT (room:Int) (w:Bc) (e:Ending) (w':Bc):Prop :=
 ((room<1∨100<room)/\e= .returned (.pointer none)/\w=w')∨(1<=room/\room<=100)/\∃ p mb,e= .returned (zP p)/\Da w' p mb room 0 []/\Au w w'/\w.heap.size<=p/\w.heap.size<=mb
theorem XZ (room:Int) (w:Bc) (j:i64 room) :
  Calls Tryz.prog 88 #[zI room] w (fT room w):=by
 by_cases g:1<=room
 ·have e:decide (room<1)=false:=dF;by_cases h:room<=100
  ·have f:decide (100<room)=false:=dF;have k:=@run_makeMap Tryz.prog;have c:Hid (Da ((w.alloc (.map #[] 0)).alloc (.cells #[zI room,zO,.map (some w.heap.size)] 242)) (w.heap.size+1) w.heap.size room 0 []):=by
    have b:=AX.new (w.alloc (.map #[] 0)) 242 #[zI room,zO,.map (some w.heap.size)];rw[World.size_alloc] at b;refine⟨?_,⟨[],(Cw.new w _ _).alloc _,List.Perm.refl _⟩,List.Pairwise.nil,fun i a=>(by cases a),by omega,fun i a=>(by cases a)⟩;rw[wu_small (by omega) (by omega)];exact b
   have d:Hid (Au w ((w.alloc (.map #[] 0)).alloc (.cells #[zI room,zO,.map (some w.heap.size)] 242))):=Lh (((Aa _ w).alloc _).alloc _);go_in;go_wp2;go_ret;exact .inr ⟨⟨g,h⟩,_,_,rfl,c.out,d.out,by omega,AY _⟩
  ·have f:decide (100<room)=true:=by rw[Bb];omega
   go_in;go_wp2;go_ret;exact .inl ⟨.inr (by omega),rfl,rfl⟩
 ·have e:decide (room<1)=true:=by rw[Bb];omega
  go_in;go_wp2;go_ret;exact .inl ⟨.inl (by omega),rfl,rfl⟩
end
section
open Go.Maps (Keyed)
def Found (Y:List (Iu × Int)) (left:List (Value × Value)) (f:Bool) (u:Int) (q:Qu):Prop :=
 (f=false/\∀ a∈Y,Il a∈left)∨(f=true/\∃ b∈Y,b.1.q=q/\b.2=u/\∀ a∈Y,Il a∈left∨b.2<=a.2)
theorem Found.next {Y:List (Iu × Int)} {left left':List (Value × Value)} {f:Bool} {u:Int} {q:Qu} (a:Found Y left f u q) {z:Iu × Int} (m:z∈Y) (o:Y.Pairwise fun h b=>h.1.q≠b.1.q) (n:∀ y∈Y,kQ y.1)
  (k:∀ x,x∈left'↔x∈left/\x.1≠(Il z).1):(f=false∨z.2<u->Found Y left' true z.2 z.1.q)/\(f=true->¬z.2<u->Found Y left' true u q):=by
 have s:∀ y∈Y,(Il y).1=(Il z).1->y=z:=fun y c v=>by
  have hq:y.1.q=z.1.q:=Sl (n y c).1 (n z m).1 v;exact List.Pairwise.forall_of_forall_of_flip (R:=fun h b:Iu × Int=>h.1.q=b.1.q->h=b) (fun _ _ _=>rfl) (o.imp fun l i=>Bv i l) (o.imp fun l i=>Bv i.symm l) c m hq
 constructor
 ·intro e;refine .inr ⟨rfl,z,m,rfl,rfl,fun y c=>?_⟩;by_cases g:(Il y).1=(Il z).1
  ·rw[s y c g];exact .inr (Int.le_refl _)
  ·rcases a with⟨_,a⟩|⟨j,t,r,_,p,a⟩
   ·exact .inl ((k _).2 ⟨a y c,g⟩)
   ·rcases a y c with d|d
    ·exact .inl ((k _).2 ⟨d,g⟩)
    ·right;rcases e with e|e
     ·rw[j] at e;cases e
     ·omega
 ·intro j e;rcases a with⟨a,_⟩|⟨_,t,r,w,p,a⟩
  ·rw[j] at a;cases a
  ·refine .inr ⟨rfl,t,r,w,p,fun y c=>?_⟩;by_cases g:(Il y).1=(Il z).1
   ·rw[s y c g];right;omega
   ·rcases a y c with d|d
    ·exact .inl ((k _).2 ⟨d,g⟩)
    ·exact .inr d
theorem Found.lT {Y:List (Iu × Int)} {f:Bool} {u:Int} {q:Qu} {y:Iu × Int} (a:Found (y::Y) [] f u q) (j:(y::Y).Pairwise fun g b=>g.2<b.2):f=true/\q=y.1.q:=by
 rcases a with⟨_,a⟩|⟨h,e,d,i,_,a⟩
 ·exact Bv (a y (by simp)) (by simp)
 ·refine⟨h,?_⟩;have c:e.2<=y.2:=by
   rcases a y (by simp) with c|c
   ·simp at c
   ·exact c
  rcases BI.1 d with rfl|d
  ·exact i.symm
  ·have:=(Gm.1 j).1 e d;omega
theorem Yn {Y:List (Iu × Int)} {y:Iu × Int} {l a:List (Value × Value)} (b:l.Perm ((y::Y).map Il)) (c:l.Perm (Il y::a)):a.Perm (Y.map Il):=by
 have:(Il y::a).Perm (Il y::Y.map Il):=c.symm.trans b;exact this.cons_inv
theorem K4:(Tryz.prog.info? 374).map (·.size)=some 5:=by kernel_rfl
theorem cK {w:Bc} {p i:Nat} {room uses:Int} {Y:List (Iu × Int)} {y:Iu × Int} (b:Da w p i room uses (y::Y)) (ci:uses<=9223372036854775807) :
  Calls Tryz.prog 257 #[zP p] w (Rt (.tuple #[]) fun w'=>Da w' p i room uses Y/\Am (fun k=>k=i) w w'):=by
 have l:=Lh b;obtain⟨bu,bv,K⟩:=b.cells;obtain⟨bi,co⟩:=b.lt;obtain⟨F,bd,bk⟩:=b.map;have S:=Lh bk;have W:=bd.alloc (.cells #[zO,zO,zE,zE,zE,zE,zE,zE,zE,zE,zE,zE,zE,zE,zE,zE,zE,zE] 370);have aw:Hid (AX (w.alloc (.cells #[zO,zO,zE,zE,zE,zE,zE,zE,zE,zE,zE,zE,zE,zE,zE,zE,zE,zE] 370)) w.heap.size 370 (Mg Uj)):=Lh (AX.new w _ _);have az:Hid (Am (fun k=>w.heap.size<=k) w (w.alloc (.cells #[zO,zO,zE,zE,zE,zE,zE,zE,zE,zE,zE,zE,zE,zE,zE,zE,zE,zE] 370))):=Lh ((Aa _ w).alloc _);clear b bu bv bk bd;go_in;go_wp2_with (at_range;refine Jg _ rfl _ 240 rfl 370 374 Tryz.underlying240 i F rfl W ?_;intro cn ap ah bn);go_frame;have ax:=AX.Ab aw.out ah id;have ba:=az.out.AJ ah fun f j b=>b.elim
 rw[World.size_alloc] at ap bn ⊢;have bo:w.heap.size+1<cn.heap.size:=by omega
 clear aw az ah W bn;go_loopg [3,4] F.length fun gk cm cl wr=>∃ left T A q,left.length=gk/\cm=zI A/\cl= .bool T/\Found (y::Y) left T A q/\Fq wr Tryz.prog 370 i (w.heap.size+1) F left/\AX wr w.heap.size 370 (Mg q)/\Am (fun k=>w.heap.size<=k) w wr/\w.heap.size+1<wr.heap.size
 case atStart=>exact⟨F,false,0,Uj,rfl,rfl,rfl,.inl ⟨rfl,fun H ct=>S.out.mem_iff.2 (Di ct)⟩,ap,ax,ba,bo⟩
 case round =>
  clear ap ax ba bo;obtain⟨left,T,A,q,bb,rfl,rfl,hF,Z,X,C,cp⟩:=hrel;have B:=Lh hF;clear hF;go_wp2_with (at_next;refine J2 _ rfl _ rfl 370 i (w.heap.size+1) F left rfl Z ?_ ?_)
  ·intro W;subst W;have bx:=B.out.lT l.out.rise;obtain⟨rfl,rfl⟩:=bx;have bf:=Z.map;have bc:Il y∈F:=S.out.mem_iff.2 (Di (by simp));obtain⟨br,ck,ce,bg,bj,U,_⟩:=(bf.drew).WS L6 Tryz.underlying240 bc 0;have cc:p<wr.heap.size:=Bj bi C.size;have bm:p≠i:=l.out.ne;have ca:w.heap.size≠i:=by omega
   have au:Cl wr p 2 (.map (some i)):=(C.cell (p:=zA p 2) bi (by show ¬w.heap.size<=p;omega)).trans K;have bs:Hid (Da br p i room uses Y):=by
    have V:=(l.out.BR.Ab C (by show ¬w.heap.size<=p;omega)).Ab ((Aa (fun f=>f=i) wr).drew.AJ U fun _ _ b=>b) bm;exact⟨V,⟨ck,bg,Yn S.out bj⟩,(Gm.1 l.out.rise).2,fun H ct=>l.out.all H (by simp[ct]),l.out.nn,fun H ct=>l.out.pos H (by simp[ct])⟩
   have bt:Hid (Am (fun k=>k=i) w br):=by
    exact((C.mono (S':=fun k=>k=i) fun f j b=>by omega).drew).AJ U fun _ _ b=>b
   clear K;have K:=au;clear au bf bg bj B Z bc;go_wp2;refine GZ (fun m=>Cl m p 2 (.map (some i))/\AX m w.heap.size 370 (Mg y.1.q)) ⟨K,X⟩ fun c=>?_
   refine hq 0 28 c ?_;refine hq 1 29 c ?_;refine hq 2 30 c ?_;refine hq 3 31 c ?_;refine hq 4 32 (hx:=fun m P=>Ce (.tmp 2) rfl rfl P.2 Tryz.underlying370 rfl (by rw[Cy];exact ES)) c ?_;refine Gg 5 fun J r=>?_
   rw[AQ (by rfl)];refine Kr (.tmp 31) (.tmp 32) 240 370 rfl rfl rfl ce ?_;rw[CZ (by rfl)];refine r.out _ _ ⟨(U.cell (p:=zA p 2) cc fun e=>bm e).trans K,AX.Ab (AX.drew X) U ca⟩ fun c=>?_
   clear r J;refine zw ?_;go_wp2;go_end0;exact⟨rfl,bs.out,bt.out⟩
  ·rintro cr a G cb bl aq be bh ak cf bz;obtain⟨H,ct,rfl⟩:=Bp.1 (S.out.mem_iff.1 bl);have t:=B.out.next ct l.out.keys (fun y cj=>(l.out.all y cj).2) bh;have cq:w.heap.size+1<a.heap.size:=by omega
   have Q:=X.Ab ak (by omega);have ai:=C.AJ ak fun f j b=>by omega
   obtain⟨d,g⟩:=H;have bp:wu g=g:=wu_small (l.out.pos _ ct) (Int.le_trans (l.out.all _ ct).1 ci);simp only[Il,Pn,bp] at bz t;clear bp;have L:Hid (AX ((a.alloc (.cells #[zO,zO,zE,zE,zE,zE,zE,zE,zE,zE,zE,zE,zE,zE,zE,zE,zE,zE] 370)).alloc (.cells #[zO,zO,zO,zO,zO] 374)) a.heap.size 370 (Mg Uj)):=Lh ((AX.new a _ _).alloc _);have M:Hid (AX ((a.alloc (.cells #[zO,zO,zE,zE,zE,zE,zE,zE,zE,zE,zE,zE,zE,zE,zE,zE,zE,zE] 370)).alloc (.cells #[zO,zO,zO,zO,zO] 374)) (a.heap.size+1) 374 #[zO,zO,zO,zO,zO]):=by
    have V:=AX.new (a.alloc (.cells #[zO,zO,zE,zE,zE,zE,zE,zE,zE,zE,zE,zE,zE,zE,zE,zE,zE,zE] 370)) 374 #[zO,zO,zO,zO,zO];rw[World.size_alloc] at V;exact V
   have O:Hid (Am (fun k=>a.heap.size<=k) a ((a.alloc (.cells #[zO,zO,zE,zE,zE,zE,zE,zE,zE,zE,zE,zE,zE,zE,zE,zE,zE,zE] 370)).alloc (.cells #[zO,zO,zO,zO,zO] 374))):=Lh (((Aa _ a).alloc _).alloc _);have ay:Hid (((a.alloc (.cells #[zO,zO,zE,zE,zE,zE,zE,zE,zE,zE,zE,zE,zE,zE,zE,zE,zE,zE] 370)).alloc (.cells #[zO,zO,zO,zO,zO] 374)).heap.size=a.heap.size+2):=Lh (by simp);have af:=Lh be;have ae:=Lh bb;clear cb bl bh ak cf X C Z be bb;rcases T with _|_
   ·have I:=Lh (t.1 (.inl rfl));clear t B;have av:(0:Int)=0:=rfl;go_wp2_with (first
     |(refine Bo rfl (.tmp 5) (.tmp 15) rfl rfl (cs':=Mg d.q) rfl L.out (by rw[Cy];exact ES) (by rw[Cy,Cy]) (Ie _) ?_;intro bq x n aa;have z:=M.out.Ab n (by omega))
     |(refine Bo rfl (.tmp 6) (.tmp 16) rfl rfl (cs':=#[zI d.told,zI d.Hq,zI d.turn,zI d.till,zI g]) rfl z K4 rfl (by simp[Value.oneCell']) ?_;intro cs s o ab;have E:Cl cs (a.heap.size+1) 4 (zI g):=s.cell 4))
    have h:Am (fun k=>a.heap.size<=k) a cs:=(O.out.AJ n fun f j b=>by omega).AJ o fun f j b=>by omega
    have R:=Q.Ab h (by omega);have N:=ai.AJ h fun f j b=>by omega
    have D:=x.Ab o (by omega);have ar:w.heap.size+1<cs.heap.size:=by have:=h.size;omega
    have al:a.heap.size+1<cs.heap.size:=by have:=s.lt;omega
    have am:a.heap.size≠w.heap.size:=by omega
    have an:a.heap.size+1≠w.heap.size:=by omega
    clear z x n o aa ab L M O ay Q;refine GZ (fun m=>AX m a.heap.size 370 (Mg d.q)/\Cl m (a.heap.size+1) 4 (zI g)) ⟨D,E⟩ fun c=>?_
    refine hq 0 25 (hx:=fun m P=>Ce (.tmp 5) rfl rfl P.1 Tryz.underlying370 rfl (by rw[Cy];exact ES)) c ?_;refine hq 1 26 c ?_;refine hq 2 27 c ?_;refine Gg 3 fun J r=>?_
    rw[AQ (by rfl)];refine Ck (.tmp 2) (.tmp 25) rfl rfl rfl R (by rw[Cy];exact ES) (by rw[Cy,Cy]) (Ie _) fun ag v cg=>?_
    rw[CZ (by rfl)];refine r.out _ _ ⟨AX.Ab (AX.drew D) v am,(v.cell (p:=zA (a.heap.size+1) 4) al an).trans E⟩ fun c=>?_
    clear r J;refine hq 4 3 c ?_;refine hq 5 4 c ?_;refine zw ?_;have u:Am (fun k=>k=w.heap.size) cs _:=((Aa _ cs).drew).AJ v fun _ _ b=>b
    have ao:=(aq.Ab h (by omega) (by omega)).Ab u (by omega) (by omega);have aj:=N.AJ u fun f j b=>by omega
    have ch:=u.size;go_wp2;go_roundg G.length
    case measure=>have:=af.out;have:=ae.out;omega
    case rel=>exact⟨G,true,g,d.q,rfl,rfl,rfl,I.out,ao,ag,aj,by omega⟩
   ·by_cases ac:g<A
    ·have I:=Lh (t.1 (.inr ac));clear t B;have av:decide (g<A)=true:=by simpa using ac
     go_wp2_with (first
      |(refine Bo rfl (.tmp 5) (.tmp 15) rfl rfl (cs':=Mg d.q) rfl L.out (by rw[Cy];exact ES) (by rw[Cy,Cy]) (Ie _) ?_;intro bq x n aa;have z:=M.out.Ab n (by omega))
      |(refine Bo rfl (.tmp 6) (.tmp 16) rfl rfl (cs':=#[zI d.told,zI d.Hq,zI d.turn,zI d.till,zI g]) rfl z K4 rfl (by simp[Value.oneCell']) ?_;intro cs s o ab;have E:Cl cs (a.heap.size+1) 4 (zI g):=s.cell 4))
     have h:Am (fun k=>a.heap.size<=k) a cs:=(O.out.AJ n fun f j b=>by omega).AJ o fun f j b=>by omega
     have R:=Q.Ab h (by omega);have N:=ai.AJ h fun f j b=>by omega
     have D:=x.Ab o (by omega);have ar:w.heap.size+1<cs.heap.size:=by have:=h.size;omega
     have al:a.heap.size+1<cs.heap.size:=by have:=s.lt;omega
     have am:a.heap.size≠w.heap.size:=by omega
     have an:a.heap.size+1≠w.heap.size:=by omega
     clear z x n o aa ab L M O ay Q;refine GZ (fun m=>AX m a.heap.size 370 (Mg d.q)/\Cl m (a.heap.size+1) 4 (zI g)) ⟨D,E⟩ fun c=>?_
     refine hq 0 25 (hx:=fun m P=>Ce (.tmp 5) rfl rfl P.1 Tryz.underlying370 rfl (by rw[Cy];exact ES)) c ?_;refine hq 1 26 c ?_;refine hq 2 27 c ?_;refine Gg 3 fun J r=>?_
     rw[AQ (by rfl)];refine Ck (.tmp 2) (.tmp 25) rfl rfl rfl R (by rw[Cy];exact ES) (by rw[Cy,Cy]) (Ie _) fun ag v cg=>?_
     rw[CZ (by rfl)];refine r.out _ _ ⟨AX.Ab (AX.drew D) v am,(v.cell (p:=zA (a.heap.size+1) 4) al an).trans E⟩ fun c=>?_
     clear r J;refine hq 4 3 c ?_;refine hq 5 4 c ?_;refine zw ?_;have u:Am (fun k=>k=w.heap.size) cs _:=((Aa _ cs).drew).AJ v fun _ _ b=>b
     have ao:=(aq.Ab h (by omega) (by omega)).Ab u (by omega) (by omega);have aj:=N.AJ u fun f j b=>by omega
     have ch:=u.size;go_wp2;go_roundg G.length
     case measure=>have:=af.out;have:=ae.out;omega
     case rel=>exact⟨G,true,g,d.q,rfl,rfl,rfl,I.out,ao,ag,aj,by omega⟩
    ·have I:=Lh (t.2 rfl ac);clear t B;have av:decide (g<A)=false:=by simpa using ac
     go_wp2_with (first
      |(refine Bo rfl (.tmp 5) (.tmp 15) rfl rfl (cs':=Mg d.q) rfl L.out (by rw[Cy];exact ES) (by rw[Cy,Cy]) (Ie _) ?_;intro bq x n aa;have z:=M.out.Ab n (by omega))
      |(refine Bo rfl (.tmp 6) (.tmp 16) rfl rfl (cs':=#[zI d.told,zI d.Hq,zI d.turn,zI d.till,zI g]) rfl z K4 rfl (by simp[Value.oneCell']) ?_;intro cs s o ab;have E:Cl cs (a.heap.size+1) 4 (zI g):=s.cell 4))
     have h:Am (fun k=>a.heap.size<=k) a cs:=(O.out.AJ n fun f j b=>by omega).AJ o fun f j b=>by omega
     have R:=Q.Ab h (by omega);have N:=ai.AJ h fun f j b=>by omega
     have D:=x.Ab o (by omega);have ar:w.heap.size+1<cs.heap.size:=by have:=h.size;omega
     have cd:=aq.Ab h (by omega) (by omega);go_roundg G.length
     case measure=>have:=af.out;have:=ae.out;omega
     case rel=>exact⟨G,true,A,q,rfl,rfl,rfl,I.out,cd,R,N,ar⟩
end
end Go.Proofs.YtcjcndnjpedniaaGreat
