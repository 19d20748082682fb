/- A part of the proof of TopUsers. -/
import Derived.Laws.OwnMore
import Derived.ChangeAlike
import Derived.Test.YtcjcndnjpedniaaGreatB11
namespace Go.Proofs.YtcjcndnjpedniaaGreat
set_option linter.all false
set_option maxRecDepth 100000
set_option maxHeartbeats 8000000
open Go.RowKit
def IC (num half n:Nat):List UInt8:=[0,0,0,0,0,0,0,UInt8.ofNat num,UInt8.ofNat half,0,UInt8.ofNat n]
section
variable {w w' W:Bc} {d nb sb pb:Nat} {now:List UInt8}
def hC (a b c e:Int):Array Value:=#[.int .u8 0,.int .u8 0,.int .u8 0,.int .u8 0,.int .u8 0,.int .u8 0,.int .u8 0,.int .u8 a,.int .u8 b,.int .u8 c,.int .u8 e]
theorem YT (n:Int) (a : 0<=n) (b : n<256):IntKind.u64.wrap n=n:=by
 rw[IntKind.wrap_u64];omega
theorem aB (num half n:Nat) (w:Bc) (O:num<256) (P:half<=1) (Q:n<256) :
  Calls Tryz.prog 82 #[zI num,zI half,zI n] w (Rt (.string (Dy (IC num half n))) (Au w)):=by
 have i:Hid (AX (w.alloc (.cells (hC 0 0 0 0) 230)) w.heap.size 230 (hC 0 0 0 0)):=Lh (AX.new w _ _);have j:Hid (Au w (w.alloc (.cells (hC 0 0 0 0) 230))):=Lh ((Aa _ w).alloc _);have S:IntKind.u64.wrap (num:Int)=(num:Int):=YT _ (by omega) (by omega);have X:(0:Int)<=(num:Int):=by omega
 have Y:(num:Int)<256:=by omega
 go_in;go_wp2_with fail;have E:w.heap.size<w.heap.size+1:=by omega
 obtain⟨J,m⟩:∃ K,K=w.alloc (.cells (hC 0 0 0 0) 230):=⟨_,rfl⟩
 have t:w.alloc (.cells #[.int .u8 0,.int .u8 0,.int .u8 0,.int .u8 0,.int .u8 0,.int .u8 0,.int .u8 0,.int .u8 0,.int .u8 0,.int .u8 0,.int .u8 0] 230)=J:=m.symm;rw[t];rw[<- m] at i j;clear m t;obtain⟨a,l⟩:∃ a,a=w.heap.size:=⟨_,rfl⟩
 rw[<- l] at i E ⊢;have e:=Lh l;clear l;go_loopg [9] 8 fun gk I wr=>∃ d:Nat,d+gk=8/\I=zI d/\Hid (AX wr a 230 (if d<8 then hC 0 0 0 0 else hC num 0 0 0))/\Hid (Au w wr)
 case atStart=>exact⟨0,by omega,rfl,i,j⟩
 case round =>
  clear i j;obtain⟨d,F,rfl,b,f⟩:=hrel;by_cases s:d<8
  ·rw[AQ s] at b;have G:d=0∨d=1∨d=2∨d=3∨d=4∨d=5∨d=6∨d=7:=by omega
   have z:=fun o=>b.out.frozen o
   rcases G with rfl|rfl|rfl|rfl|rfl|rfl|rfl|rfl
   ·have g:Cl wr a 0 (.int .u8 0):=b.out.cell 0;have h:(num:Int)/72057594037927936=0:=by omega
    go_wp2;go_roundg (gk-1)
    case measure=>omega
    case rel=>exact⟨1,by omega,by go_num,Lh (by rw[AQ (by omega)];exact b.out.Dw 0 (.int .u8 0)),Lh (f.out.setCell (p:=zA a 0) (fun c=>by have:=e.out;dsimp only at c;omega) _)⟩
   ·have g:Cl wr a 1 (.int .u8 0):=b.out.cell 1;have h:(num:Int)/281474976710656=0:=by omega
    go_wp2;go_roundg (gk-1)
    case measure=>omega
    case rel=>exact⟨2,by omega,by go_num,Lh (by rw[AQ (by omega)];exact b.out.Dw 1 (.int .u8 0)),Lh (f.out.setCell (p:=zA a 1) (fun c=>by have:=e.out;dsimp only at c;omega) _)⟩
   ·have g:Cl wr a 2 (.int .u8 0):=b.out.cell 2;have h:(num:Int)/1099511627776=0:=by omega
    go_wp2;go_roundg (gk-1)
    case measure=>omega
    case rel=>exact⟨3,by omega,by go_num,Lh (by rw[AQ (by omega)];exact b.out.Dw 2 (.int .u8 0)),Lh (f.out.setCell (p:=zA a 2) (fun c=>by have:=e.out;dsimp only at c;omega) _)⟩
   ·have g:Cl wr a 3 (.int .u8 0):=b.out.cell 3;have h:(num:Int)/4294967296=0:=by omega
    go_wp2;go_roundg (gk-1)
    case measure=>omega
    case rel=>exact⟨4,by omega,by go_num,Lh (by rw[AQ (by omega)];exact b.out.Dw 3 (.int .u8 0)),Lh (f.out.setCell (p:=zA a 3) (fun c=>by have:=e.out;dsimp only at c;omega) _)⟩
   ·have g:Cl wr a 4 (.int .u8 0):=b.out.cell 4;have h:(num:Int)/16777216=0:=by omega
    go_wp2;go_roundg (gk-1)
    case measure=>omega
    case rel=>exact⟨5,by omega,by go_num,Lh (by rw[AQ (by omega)];exact b.out.Dw 4 (.int .u8 0)),Lh (f.out.setCell (p:=zA a 4) (fun c=>by have:=e.out;dsimp only at c;omega) _)⟩
   ·have g:Cl wr a 5 (.int .u8 0):=b.out.cell 5;have h:(num:Int)/65536=0:=by omega
    go_wp2;go_roundg (gk-1)
    case measure=>omega
    case rel=>exact⟨6,by omega,by go_num,Lh (by rw[AQ (by omega)];exact b.out.Dw 5 (.int .u8 0)),Lh (f.out.setCell (p:=zA a 5) (fun c=>by have:=e.out;dsimp only at c;omega) _)⟩
   ·have g:Cl wr a 6 (.int .u8 0):=b.out.cell 6;have h:(num:Int)/256=0:=by omega
    go_wp2;go_roundg (gk-1)
    case measure=>omega
    case rel=>exact⟨7,by omega,by go_num,Lh (by rw[AQ (by omega)];exact b.out.Dw 6 (.int .u8 0)),Lh (f.out.setCell (p:=zA a 6) (fun c=>by have:=e.out;dsimp only at c;omega) _)⟩
   ·have g:Cl wr a 7 (.int .u8 0):=b.out.cell 7;go_wp2;go_roundg (gk-1)
    case measure=>omega
    case rel=>exact⟨8,by omega,by go_num,Lh (by rw[Bg (by omega)];exact b.out.Dw 7 (.int .u8 (num:Int))),Lh (f.out.setCell (p:=zA a 7) (fun c=>by have:=e.out;dsimp only at c;omega) _)⟩
  ·obtain rfl:d=8:=by omega
   rw[Bg s] at b;have T:IntKind.u8.wrap (half:Int)=(half:Int):=wrap_u8 _ (by omega) (by omega);have U:IntKind.u8.wrap (n:Int)=(n:Int):=wrap_u8 _ (by omega) (by omega);have ab:(n:Int)/256=0:=by omega
   have V:(0:Int)<=(n:Int):=by omega
   have W:(n:Int)<256:=by omega
   have Z:(0:Int)<=(half:Int):=by omega
   have aa:(half:Int)<256:=by omega
   have R:a<wr.heap.size:=b.out.lt;have M:Cl wr a 8 (.int .u8 0):=b.out.cell 8;have N:Cl wr a 9 (.int .u8 0):=b.out.cell 9;have L:Cl wr a 10 (.int .u8 0):=b.out.cell 10;have z:=fun o=>b.out.frozen o
   have u:Hid (AX (((wr.setCell (zA a 8) (.int .u8 half)).setCell (zA a 9) (.int .u8 0)).setCell (zA a 10) (.int .u8 n)) a 230 (hC num half 0 n)):=Lh (((b.out.Dw 8 (.int .u8 half)).Dw 9 (.int .u8 0)).Dw 10 (.int .u8 n));have v:Hid (Au w (((wr.setCell (zA a 8) (.int .u8 half)).setCell (zA a 9) (.int .u8 0)).setCell (zA a 10) (.int .u8 n))):=Lh (((f.out.setCell (p:=zA a 8) (fun c=>by have:=e.out;dsimp only at c;omega) _).setCell (p:=zA a 9) (fun c=>by have:=e.out;dsimp only at c;omega) _).setCell (p:=zA a 10) (fun c=>by have:=e.out;dsimp only at c;omega) _);have H:=MG (ty:=9) a 0 11 (IC num half n) (hC num half 0 n) u.out Tryz.underlying9 rfl (by
    intro d y r;have F:d<11:=(AC.1 r).1;have A:(num:Int)=((UInt8.ofNat num).toNat:Int):=by simp;omega
    have B:(half:Int)=((UInt8.ofNat half).toNat:Int):=by simp;omega
    have C:(n:Int)=((UInt8.ofNat n).toNat:Int):=by simp;omega
    have D:(hC num half 0 n).toList=(IC num half n).map bV:=by
     unfold hC IC bV;simp only[Dm,FR];rw[<- A,<- B,<- C];rfl
    have:(hC num half 0 n).toList[d]?= some (bV y):=by rw[D,Ch,r];rfl
    rw[Bz];simpa using this) 11
   obtain⟨q,k⟩:∃ q,q=Dy (IC num half n):=⟨_,rfl⟩
   rw[<- k] at H;have x:=Lh k;clear k;go_wp2;go_ret;exact⟨by rw[<- x.out];rfl,v.out⟩
end

section
variable {w w' W:Bc} {d nb sb pb p:Nat} {now:List UInt8} {num half:Int} {rec:BB}
theorem WW (a:Ef w d nb sb pb now) (b:AX w p 183 (Ij d num half rec)):¬Ha nb sb pb p:=by
 obtain⟨g,c,j⟩:=a.NV;obtain⟨h,e,k⟩:=a.Mm;obtain⟨i,f,l⟩:=a.LC;exact Ha.not (AX.GJ b c (by decide)) (AX.GJ b e (by decide)) (AX.GJ b f (by decide))
theorem TF (s:BB):s.extract s.size s.size=⟨#[]⟩:=by
 apply Kt;rw[IK];simp[List.drop_of_length_le]
theorem iM (a:Ef w d nb sb pb now) (e:AX w p 183 (Ij d num half rec)) (i:Int) (x:Nat) (E:0<=i) (F:i<=1) (hx:1+i*32=(x:Int)) (s:BB) (G:s.size<=32) (hs1:1<=s.size) :
  Calls Tryz.prog 80 #[zP p,zI i,.string s] w (Rt zO fun w'=>Ef w' d nb sb pb (SH now x s.data.toList)/\Am (Ha nb sb pb) w w'):=by
 have h:=fun W (g:Au w W)=>QT (a.AB g) (e.Ab g id) i E F
 rw[hx] at h;have v:=Lh h;have y:=Lh fun W (g:Au w W)=>P7 (a.AB g) x (by omega) s G
 have t:=Lh fun W (A:Ef W d nb sb pb (SH now x s.data.toList))=>Oo A
 have m:=Lh (WW a e);have l:=Lh e.lt;obtain⟨f,_,_,_⟩:=GQ e;have Q:s.extract s.size s.size=⟨#[]⟩:=TF s;have S:min (s.size:Int) 32=(s.size:Int):=by omega
 have K:decide ((0:Int)<(s.size:Int))=true:=by rw[Bb];omega
 have L:decide ((s.size:Int) > 0)=true:=by rw[Bb];omega
 have O:(0:Int)<=(s.size:Int):=by omega
 have N:(s.size:Int)<=32:=by omega
 have P:(0:Int)<=(x:Int):=by omega
 have R:(x:Int)<=33:=by omega
 have M:IntKind.i64.wrap ((x:Int)+0)=(x:Int):=by rw[IntKind.wrap_i64];omega
 have hq2:IntKind.i64.wrap (x:Int)=(x:Int):=by rw[IntKind.wrap_i64];omega
 clear a e h hx;go_in;go_wp2;go_loopg [2,7] 1 fun gk r q wr=>(gk=1/\r= .string s/\q=zO/\w=wr)∨(gk=0/\r=zE/\q=zI 1/\Ef wr d nb sb pb (SH now x s.data.toList)/\Am (Ha nb sb pb) w wr)
 case atStart=>exact .inl ⟨rfl,rfl,rfl,rfl⟩
 case round =>
  rcases hrel with⟨rfl,rfl,rfl,rfl⟩|⟨rfl,rfl,rfl,c,b⟩
  ·go_upto_region 5 with(fail)
   go_cut [9] fun H W=>H=zO/\Ef W d nb sb pb (SH now x s.data.toList)/\Am (Ha nb sb pb) w W
   case first =>
    go_region_held3 (fun W=>Cl W p 0 (zP d))
     (first
      |exact f
      |exact(o.cell (p:=zA p 0) l.out m.out).trans f)
     (first
      |(go_at_call 78;refine(v.out _ (by first|exact Aa _ _|exact(Aa _ _).drew)).mono ?_;rintro n U ⟨rfl,rfl⟩)
      |(go_at_call 81;refine(y.out _ (by first|exact Aa _ _|exact(Aa _ _).drew)).mono ?_;rintro n I ⟨rfl,B,k⟩;have o:Am (Ha nb sb pb) w I:=(by first|exact k|exact((Aa (Ha nb sb pb) w).drew).AJ k fun _ _ a=>a);clear k))
    go_wp2;go_meet;exact⟨rfl,B,o⟩
   case rest =>
    obtain⟨rfl,c,b⟩:=hcut;have z:=Lh c;have j:=Lh b;clear c b;go_wp2;go_roundg 0
    case measure=>omega
    case rel=>exact .inr ⟨rfl,rfl,rfl,z.out,j.out⟩
  ·have J:=(b.cell (p:=zA p 0) l.out m.out).trans f;have j:=Lh b;have u:=Lh (t.out _ c);clear c b f;go_wp2_with (go_at_call 83;refine u.out.mono ?_;rintro n T ⟨rfl,C,D⟩);go_ret;exact⟨rfl,C,j.out.AJ D fun _ _ a=>a⟩
end

section
variable {w w' W:Bc} {d nb sb pb p:Nat} {now:List UInt8} {rec:BB}
def Jj (now:List UInt8) (x m half':Nat) (s:BB):List UInt8:=SH (SH now x s.data.toList) 0 (IC m half' s.size)
theorem Mw {num half half' x m:Nat} (a:Ef w d nb sb pb now) (b:AX w p 183 (Ij d num half rec)) (ai:half+half'=1) (hx:x=1+half'*32) (aj:m=num+1) (O:m<256) (s:BB) (ak:s.size<=32) (hs1:1<=s.size) :
  Calls Tryz.prog 48 #[zP p,.string s] w (Rt zO fun w'=>Ef w' d nb sb pb (Jj now x m half' s)/\AX w' p 183 (Ij d m half' s)/\Am (fun k=>Ha nb sb pb k∨k=p) w w'):=by
 have C:=Lh (ZK a);have E:=Lh (U9 a b);have D:=Lh (iM a b half' x (by omega) (by omega) (by omega) s ak hs1);have R:=Lh fun W=>aB m half' s.size W O (by omega) (by omega)
 have S:Hid (∀ W,Ef W d nb sb pb (SH now x s.data.toList)->Calls Tryz.prog 81 #[zP d,zO,.string (Dy (IC m half' s.size))] W (Rt zO fun w'=>Ef w' d nb sb pb (Jj now x m half' s)/\Am (Ha nb sb pb) W w')):=Lh fun W (u:Ef W d nb sb pb (SH now x s.data.toList))=>P7 u 0 (by omega) (Dy (IC m half' s.size)) (by rw[E5];simp[IC])
 have P:=Lh fun W (u:Ef W d nb sb pb (Jj now x m half' s))=>Oo u
 have i:=Lh (WW a b);have ap:=Lh b.lt;have h:=Lh b;have n:Hid (p≠d/\p≠nb/\p≠sb/\p≠pb):=Lh (by
  obtain⟨ar,Z,I⟩:=a.NV;obtain⟨au,aa,aw⟩:=a.Mm;obtain⟨av,ab,ax⟩:=a.LC;exact⟨AX.GJ b a.BR (by decide),AX.GJ b Z (by decide),AX.GJ b aa (by decide),AX.GJ b ab (by decide)⟩)
 obtain⟨c,e,f,g⟩:=GQ b;have ac:decide ((s.size:Int) > 1024)=false:=by rw[Ag];omega
 have ad:decide ((1024:Int)<(s.size:Int))=false:=by rw[Ag];omega
 have ae:decide ((num:Int)≥4611686018427387904)=false:=by rw[Ag];omega
 have af:decide ((4611686018427387904:Int)<=(num:Int))=false:=by rw[Ag];omega
 have I:(1:Int)-(half:Int)=(half':Int):=by omega
 have T:Hid ((num:Int)+1=(m:Int)):=Lh (by omega);have U:Hid (IntKind.i64.wrap ((num:Int)+1)=(m:Int)):=Lh (by rw[IntKind.wrap_i64];omega);have ba:(half:Int)<=1:=by omega
 have az:(0:Int)<=(half:Int):=by omega
 have bb:(0:Int)<=(num:Int):=by omega
 have bc:(num:Int)<=255:=by omega
 clear a b ai hx aj O;go_in;go_upto_region 11 with(first
  |(go_at_call 79;refine C.out.mono ?_;rintro j ao ⟨rfl,rfl⟩)
  |(go_at_call 76;refine E.out.mono ?_;rintro j ao ⟨rfl,rfl⟩)
  |(go_at_call 80;refine D.out.mono ?_;rintro j q ⟨rfl,J,y⟩;replace h:=Lh (h.out.Ab y i.out);have F:=Lh J;have H:=Lh y;clear J y c e f g))
 obtain⟨c,e,f,g⟩:=GQ h.out;have l:=Lh h.out.lt;clear ac ad ae af I C E D;go_cut [7] fun al W=>al=zO/\Ef W d nb sb pb (Jj now x m half' s)/\Am (Ha nb sb pb) q W
 case first =>
  have ay:=U.out;go_region_held3 (fun W=>Cl W p 0 (zP d)/\Cl W p 1 (zI num))
   (first
    |exact⟨c,e⟩
    |exact⟨(A.cell (p:=zA p 0) l.out i.out).trans c,(A.cell (p:=zA p 1) l.out i.out).trans e⟩
    |exact⟨(o.cell (p:=zA p 0) l.out id).trans c,(o.cell (p:=zA p 1) l.out id).trans e⟩)
   (first
    |(go_at_call 82;refine(R.out _).mono ?_;rintro j am ⟨rfl,v⟩;have o:Au q am:=(by first|exact v|exact((T0 q).drew).to v);clear v)
    |(go_at_call 81;refine(S.out _ (F.out.AB o)).mono ?_;rintro j an ⟨rfl,ah,M⟩;have A:Am (Ha nb sb pb) q an:=o.mono (fun _ _ a=>a.elim) |>.AJ M fun _ _ a=>a;clear M))
  go_wp2;go_meet;exact⟨rfl,ah,A⟩
 case rest =>
  obtain⟨rfl,K,z⟩:=hcut;clear c e f g;have G:=Lh (h.out.Ab z i.out);obtain⟨c,e,f,g⟩:=GQ G.out;have X:=Lh (H.out.AJ z fun _ _ a=>a);have Q:=Lh (P.out _ K);clear K z F H;go_upto_region 17 with(go_at_call 83;refine Q.out.mono ?_;rintro j r ⟨rfl,L,B⟩;have t:=Lh (G.out.Ab B i.out);have Y:=Lh (X.out.AJ B fun _ _ a=>a);have V:=Lh L;clear L B c e f g)
  obtain⟨c,e,f,g⟩:=GQ t.out;have aq:=fun k=>t.out.frozen k
  have ag:Hid (AX (((r.setCell (zA p 1) (zI ((num:Int)+1))).setCell (zA p 2) (zI half')).setCell (zA p 3) (.string s)) p 183 (Ij d ((num:Int)+1) half' s)):=Lh (((t.out.Dw 1 (zI ((num:Int)+1))).Dw 2 (zI half')).Dw 3 (.string s));have N:Hid (Am (fun k=>k=p) r (((r.setCell (zA p 1) (zI ((num:Int)+1))).setCell (zA p 2) (zI half')).setCell (zA p 3) (.string s))):=Lh ((((Aa (fun k=>k=p) r).setCell (p:=zA p 1) (fun _=>rfl) _).setCell (p:=zA p 2) (fun _=>rfl) _).setCell (p:=zA p 3) (fun _=>rfl) _);go_wp2;go_ret;refine⟨rfl,V.out.Ab N.out (BZ n.out.1) (BZ n.out.2.1) (BZ n.out.2.2.1) (BZ n.out.2.2.2),?_,(Y.out.mono fun k _ a=>.inl a).AJ N.out fun k _ a=>.inr a⟩;rw[<- T.out];exact ag.out
end

theorem Ou:(Tryz.prog.info? 152).map (fun i=>(i.size,i.bytes))=some (32,32):=by kernel_rfl
theorem Vb:∃ Z:Array Value,Z.toList=(List.replicate 2080 (0:UInt8)).map bV/\∀ c:Bc,(Instr.makeSlice 130 (zI 65) (zI 65)).run Tryz.prog c= .ok (zS c.heap.size 0 65 65) (c.alloc (.cells Z 152)):=by
 obtain⟨a,f,e⟩:∃ a,Tryz.prog.info? 152=some a/\(a.size,a.bytes)=(32,32):=by
  rcases hq:Tryz.prog.info? 152 with _|a
  ·have:=Ou;rw[hq] at this;cases this
  ·have:=Ou;rw[hq] at this;exact⟨a,rfl,by simpa using this⟩
 have k:∃ b:Value,a.zero=some b/\b.cells.toList=(List.replicate 32 (0:UInt8)).map bV:=by
  have:∃ b:Value,(Tryz.prog.info? 152).bind (·.zero)=some b/\b.cells.toList=(List.replicate 32 (0:UInt8)).map bV:=⟨.agg #[.int .u8 0,.int .u8 0,.int .u8 0,.int .u8 0,.int .u8 0,.int .u8 0,.int .u8 0,.int .u8 0,.int .u8 0,.int .u8 0,.int .u8 0,.int .u8 0,.int .u8 0,.int .u8 0,.int .u8 0,.int .u8 0,.int .u8 0,.int .u8 0,.int .u8 0,.int .u8 0,.int .u8 0,.int .u8 0,.int .u8 0,.int .u8 0,.int .u8 0,.int .u8 0,.int .u8 0,.int .u8 0,.int .u8 0,.int .u8 0,.int .u8 0,.int .u8 0],by kernel_rfl,by rfl⟩
  rw[f] at this;exact this
 obtain⟨b,l,g⟩:=k;have j:a.size=32:=Bu Prod.fst e;have h:a.bytes=32:=Bu Prod.snd e;refine⟨madeCells b.cells ((65:Int).toNat*a.size),?_,fun c=>run_make c _ _ a b Tryz.underlying130 f l .i64 .i64 65 65 (by omega) (by omega) (by rw[h];omega) (by omega)⟩;rw[j];have m:b.cells.size=32:=by rw[<- Ci,g];rfl
 have n:∀ d,d<32->b.cells[d]! = bV 0:=by
  intro d i;have:b.cells.toList[d]?= some (bV 0):=by
   rw[g,Ch,List.getElem?_replicate,AQ i];rfl
  rw[getElem!_def,<- Em,this]
 unfold madeCells;rw[Array.toList_map,Array.toList_range];apply List.ext_getElem
 ·rw[Be,List.length_range,Be,Dg];rfl
 ·intro d e o;simp only[List.getElem_map,List.getElem_range,List.getElem_replicate,m];exact n _ (Nat.mod_lt _ (by omega))
theorem NL:(Tryz.prog.info? 4).map (fun i=>(i.zero,i.size,i.bytes))=some (some (.bool false),1,1):=by kernel_rfl
theorem WE:∃ Z:Array Value,Z.size=65/\∀ a:Bc,(Instr.makeSlice 49 (zI 65) (zI 65)).run Tryz.prog a= .ok (zS a.heap.size 0 65 65) (a.alloc (.cells Z 4)):=by
 obtain⟨b,d,f,e,c⟩:=info_parts NL;refine⟨madeCells (Value.bool false).cells ((65:Int).toNat*b.size),by rw[size_madeCells,e];rfl,fun a=>run_make a _ _ b _ Tryz.underlying49 d f .i64 .i64 65 65 (by omega) (by omega) (by rw[c];omega) (by omega)⟩
theorem Kv {a:Bc} {d e b c:Nat} {Z f:Array Value} (g:Z.toList=(List.replicate 2080 (0:UInt8)).map bV) (h:f.size=65) (l:AX a d 132 #[zS e 0 65 65,zS b 0 65 65,zS c 0 65 65,zO,.bool false,.bool false]) (ha:AX a e 152 Z) (j:AX a b 152 Z) (k:AX a c 4 f) (i:e≠b):Ef a d e b c (List.replicate 2080 0) :=
 ⟨l,⟨Z,ha,g⟩,Dg,⟨Z,j,by rw[<- Ci,g,Be,Dg]⟩,⟨f,k,h⟩,i⟩
theorem AX.I1 {a:Bc} {n:Nat} (t:TypeId) (cs:Array Value) (b:a.heap.size=n):AX (a.alloc (.cells cs t)) n t cs:=by
 subst b;exact AX.new _ _ _
theorem JZ {a:Bc} {b:Obj}:(a.alloc b).heap.size=a.heap.size+1:=by simp
theorem Ka {a:Bc} {b p:Obj}:((a.alloc b).alloc p).heap.size=a.heap.size+1+1:=by simp
def Vh (w:Bc) (e:Ending) (w':Bc):Prop:=∃ a b d c,e= .returned (zP a)/\Ef w' a b d c (List.replicate 2080 0)/\w.heap.size<=a/\w.heap.size<=b/\w.heap.size<=d/\w.heap.size<=c/\Au w w'
theorem VB (w:Bc):Calls Tryz.prog 23 #[zI 65] w (Vh w):=by
 obtain⟨c,a,e⟩:=Vb;obtain⟨d,b,f⟩:=WE;go_in;go_wp2_with fail;go_region
 all_goals
  go_wp2;go_ret
  first
   |(refine⟨_,w.heap.size,(w.heap.size+1),(w.heap.size+1+1),rfl,Kv a b (AX.drew (AX.I1 _ _ ?_)) ?_ ?_ ?_ (by omega),by omega,by omega,by omega,by omega,?_⟩)
   |(refine⟨_,w.heap.size,(w.heap.size+1+1),(w.heap.size+1),rfl,Kv a b (AX.drew (AX.I1 _ _ ?_)) ?_ ?_ ?_ (by omega),by omega,by omega,by omega,by omega,?_⟩)
   |(refine⟨_,(w.heap.size+1),w.heap.size,(w.heap.size+1+1),rfl,Kv a b (AX.drew (AX.I1 _ _ ?_)) ?_ ?_ ?_ (by omega),by omega,by omega,by omega,by omega,?_⟩)
   |(refine⟨_,(w.heap.size+1),(w.heap.size+1+1),w.heap.size,rfl,Kv a b (AX.drew (AX.I1 _ _ ?_)) ?_ ?_ ?_ (by omega),by omega,by omega,by omega,by omega,?_⟩)
   |(refine⟨_,(w.heap.size+1+1),w.heap.size,(w.heap.size+1),rfl,Kv a b (AX.drew (AX.I1 _ _ ?_)) ?_ ?_ ?_ (by omega),by omega,by omega,by omega,by omega,?_⟩)
   |(refine⟨_,(w.heap.size+1+1),(w.heap.size+1),w.heap.size,rfl,Kv a b (AX.drew (AX.I1 _ _ ?_)) ?_ ?_ ?_ (by omega),by omega,by omega,by omega,by omega,?_⟩)
  ·simp
  ·first|exact((((AX.I1 _ _ rfl).alloc _).alloc _).alloc _).drew|exact(((AX.I1 _ _ JZ).alloc _).alloc _).drew|exact((AX.I1 _ _ Ka).alloc _).drew
  ·first|exact((((AX.I1 _ _ rfl).alloc _).alloc _).alloc _).drew|exact(((AX.I1 _ _ JZ).alloc _).alloc _).drew|exact((AX.I1 _ _ Ka).alloc _).drew
  ·first|exact((((AX.I1 _ _ rfl).alloc _).alloc _).alloc _).drew|exact(((AX.I1 _ _ JZ).alloc _).alloc _).drew|exact((AX.I1 _ _ Ka).alloc _).drew
  ·exact(((((Aa _ w).alloc _).alloc _).alloc _).alloc _).drew

theorem Ur:∀ k:Fin 256,bits BinOp.or IntKind.u64 0 (k.1:Int)=(k.1:Int):=by decide +kernel
theorem or_zero {n:Nat} (a:n<256):bits BinOp.or IntKind.u64 0 (n:Int)=(n:Int):=Ur ⟨n,a⟩
theorem QC:∀ k:Fin 256,bits BinOp.or IntKind.i64 0 (k.1:Int)=(k.1:Int):=by decide +kernel
theorem Yj {n:Nat} (a:n<256):bits BinOp.or IntKind.i64 0 (n:Int)=(n:Int):=QC ⟨n,a⟩
section
variable {w w' W:Bc} {d nb sb pb p:Nat} {now:List UInt8}
def Xl (w:Bc) (d num half:Nat) (a:List UInt8) (e:Ending) (w':Bc):Prop :=
 ∃ p,e= .returned (.tuple #[zP p,zO])/\AX w' p 183 (Ij d num half (Dy a))/\w.heap.size<=p/\Au w w'
theorem Rf (h:Ef w d nb sb pb now) (num half n:Nat) (cu:num<256) (dp:half<=1) (dr:n<=32) (aq:now.take 11=IC num half n) (B:List UInt8) (bd:(now.drop ((1+half*32)*32)).take n=B) :
  Calls Tryz.prog 47 #[zP d] w (Xl w d num half B):=by
 obtain⟨bl,az,bi,bj,bk⟩:=info_parts KR;have ab:=Lh (RY h 0 (by omega) (by omega));have L:Hid (Calls Tryz.prog 75 #[zP d,zO] w (Rt (.string (Dy (now.take 32))) fun w'=>w=w')):=Lh (Uz h 0 (by omega));have ac:=Lh fun W (e:Au w W) (ej:Nat) (g:ej<65)=>Uz (h.AB e) ej g
 have ad:=Lh fun W (e:Au w W) (p:Nat) (el T:Int) (y:BB) (t:AX W p 183 (Ij d el T y))=>U9 (h.AB e) t
 have af:=Lh fun W (e:Au w W) (p:Nat) (el T:Int) (y:BB) (t:AX W p 183 (Ij d el T y))=>LG (h.AB e) t
 have K:Hid (∀ W (e:Au w W) (p:Nat) (el:Int) (y:BB) (t:AX W p 183 (Ij d el half y)),Calls Tryz.prog 78 #[zP p,zI half] W (Rt (zI ((1+half*32:Nat):Int)) fun w'=>W=w')):=Lh fun W e p el y t=>QT (h.AB e) t half (by omega) (by omega)
 -- the head's bytes
 have bf:(Dy (now.take 32)).size=32:=by rw[E5,BA,h.len];rfl
 have ek:∀ (ej:Nat) (g:ej<11),∀ W,(Instr.index 9 (.string (Dy (now.take 32))) (zI (ej:Int))).run Tryz.prog W= .ok (.int .u8 (((IC num half n)[ej]'g).toNat:Int)) W:=by
  intro ej g W;rw[run_index_string W _ _ _ _ Tryz.underlying9,dif_pos ⟨by omega,by omega⟩];have ax:(now.take 32)[ej]?= some ((IC num half n)[ej]'g):=by
   have o:(now.take 11)[ej]?= some ((IC num half n)[ej]'g):=by rw[aq];exact Ah g
   rw[Cf g] at o;rw[Cf (by omega)];exact o
  have cs:ej<(now.take 32).length:=by rw[BA,h.len];omega
  have cp:(now.take 32)[ej]=(IC num half n)[ej]'g:=by
   rw[Ah cs] at ax;injection ax
  have dv:((ej:Int)).toNat=ej:=by omega
  have:(Dy (now.take 32))[((ej:Int)).toNat]'(by rw[bf];omega)=(IC num half n)[ej]'g:=by
   rw[<- cp];show(now.take 32).toArray[((ej:Int)).toNat]'_=_;simp
  rw[this]
 have am:((UInt8.ofNat num).toNat:Int)=(num:Int):=by simp;omega
 have an:((UInt8.ofNat half).toNat:Int)=(half:Int):=by simp;omega
 have ao:((UInt8.ofNat n).toNat:Int)=(n:Int):=by simp;omega
 have N:Hid (∀ ej:Nat,ej<7->∀ W,(Instr.index 9 (.string (Dy (now.take 32))) (zI (ej:Int))).run Tryz.prog W= .ok (.int .u8 0) W):=Lh fun ej g W=>by
  have:=ek ej (by omega) W;have co:ej=0∨ej=1∨ej=2∨ej=3∨ej=4∨ej=5∨ej=6:=by omega
  rcases co with rfl|rfl|rfl|rfl|rfl|rfl|rfl<;>exact this
 have O:Hid (∀ W,(Instr.index 9 (.string (Dy (now.take 32))) (zI 7)).run Tryz.prog W= .ok (.int .u8 (num:Int)) W):=Lh fun W=>by have:=ek 7 (by omega) W;rw[<- am];exact this
 have bo:∀ W,(Instr.index 9 (.string (Dy (now.take 32))) (zI 8)).run Tryz.prog W= .ok (.int .u8 (half:Int)) W:=fun W=>by have:=ek 8 (by omega) W;rw[<- an];exact this
 have bp:∀ W,(Instr.index 9 (.string (Dy (now.take 32))) (zI 9)).run Tryz.prog W= .ok (.int .u8 0) W:=fun W=>ek 9 (by omega) W
 have x10:∀ W,(Instr.index 9 (.string (Dy (now.take 32))) (zI 10)).run Tryz.prog W= .ok (.int .u8 (n:Int)) W:=fun W=>by have:=ek 10 (by omega) W;rw[<- ao];exact this
 have aj:=Lh h.len;obtain⟨dl,ay⟩:∃ x,x=Dy (now.take 32):=⟨_,rfl⟩
 rw[<- ay] at L N O bo bp x10 bf;have ak:=Lh (or_zero cu);have bw:=Lh (Yj (n:=n) (by omega));have cz:bits BinOp.or IntKind.u64 0 0=0:=by decide
 have E:=Lh bd;have eb:(0:Int)<=(num:Int):=by omega
 have ec:(num:Int)<256:=by omega
 have ee:(0:Int)<=(half:Int):=by omega
 have ef:(half:Int)<=1:=by omega
 have dz:(0:Int)<=(n:Int):=by omega
 have ea:(n:Int)<=32:=by omega
 clear ek am an ao ay bd aq h;go_in;go_wp2_with (first
  |(go_at_call 74;refine ab.out.mono ?_;rintro m C ⟨rfl,rfl⟩)
  |(go_at_call 75;refine L.out.mono ?_;rintro m C ⟨rfl,rfl⟩))
 go_loopg [5,20] 8 fun gk v ej wr=>∃ a:Nat,a+gk=8/\ej=zI a/\v= .int .u64 (if a<8 then 0 else(num:Int))/\w=wr
 case atStart=>exact⟨0,by omega,rfl,rfl,rfl⟩
 case round =>
  obtain⟨a,U,rfl,rfl,rfl⟩:=hrel;by_cases bb:a<8
  ·rw[AQ bb];by_cases cq:a=7
   ·subst cq;have dc:=O.out;have ed:=ak.out;go_wp2;go_roundg (gk-1)
    case measure=>omega
    case rel=>exact⟨8,by omega,by go_num,by rw[Bg (by omega)],rfl⟩
   ·have dc:=N.out a (by omega);have X:(0:Int)<=(a:Int):=by omega
    have Y:(a:Int)<8:=by omega
    go_wp2;go_roundg (gk-1)
    case measure=>omega
    case rel=>exact⟨a+1,by omega,by go_num,by rw[AQ (by omega)],rfl⟩
  ·obtain rfl:a=8:=by omega
   rw[Bg bb];clear N O ak cz ab L;have k:Hid (AX (w.alloc (.cells (Ij d num half ⟨#[]⟩) 183)) w.heap.size 183 (Ij d num half ⟨#[]⟩)):=Lh (AX.new w _ _);have j:Hid (Au w (w.alloc (.cells (Ij d num half ⟨#[]⟩) 183))):=Lh ((Aa _ w).alloc _);have cr:Ij d num half ⟨#[]⟩=#[zP d,zI num,zI half,zE]:=rfl;rw[cr] at k j;go_upto_region 11 with(fail)
   have cw:∀ W:Bc,True:=fun _=>trivial
   clear cw;obtain⟨p,V⟩:∃ p,p=w.heap.size:=⟨_,rfl⟩
   generalize w.alloc (.cells #[zP d,zI num,zI half,zE] 183)=da at k j ⊢;rw[<- V] at k ⊢;have al:=Lh V;clear V;have on:=bw.out;go_quiet (fail);clear on bo bp x10;obtain⟨c,I⟩:∃ c,c=da.drewN nq:=⟨_,rfl⟩
   rw[<- I];replace k:=Lh (show AX c p _ _ by rw[I];exact k.out.drewN nq);replace j:=Lh (show Au w c by rw[I];exact j.out.drewN nq);clear I;obtain⟨X,Y,bm,bn⟩:=GQ k.out;have ae:=Lh (ad.out c j.out p _ _ _ k.out);have ag:=Lh fun W (e:Au c W)=>af.out W (j.out.to e) p _ _ _ (k.out.Ab e id)
   have cg:decide ((half:Int) > 1)=false:=by rw[Ag];omega
   have ch:decide ((1:Int)<(half:Int))=false:=by rw[Ag];omega
   have ci:decide ((n:Int) > 1024)=false:=by rw[Ag];omega
   have cj:decide ((1024:Int)<(n:Int))=false:=by rw[Ag];omega
   obtain⟨J,bc,au,H⟩:=run_make_own (P:=Tryz.prog) c c.heap.size 84 5 bl _ 1 Tryz.underlying84 az bi bj .i64 .i64 1024 (by rw[bk];omega) (by unfold maxLen;omega) (AY _);have ct:(Instr.makeSlice 84 zO (zI 1024)).run Tryz.prog c= .ok (zS c.heap.size 0 0 1024) J:=bc;have R:Au c J:=(T0 c).grown H fun Z m=>by cases m
   have ai:=Lh R;have bv:=Lh au;have ah:=Lh (ag.out J R);clear bc H au R ag;go_wp2_with (first
    |(go_at_call 76;refine ae.out.mono ?_;rintro m C ⟨rfl,rfl⟩)
    |(go_at_call 77;refine ah.out.mono ?_;rintro m C ⟨rfl,rfl⟩))
   clear cg ch ci cj ae ah ct ad af;obtain⟨i,bh⟩:∃ i,i=1+half*32:=⟨_,rfl⟩
   rw[<- bh] at K E;have dw:i<=33:=by omega
   clear bh;obtain⟨l,A⟩:∃ l,l=now.drop (i*32):=⟨_,rfl⟩
   rw[<- A] at E;have di:1024<=l.length:=by rw[A,Cb,aj.out];omega
   have cb:Hid (∀ a,a<32->l.take ((a+1)*32)=l.take (a*32)++(now.drop (32*(i+a))).take 32):=Lh fun a U=>by
    rw[show(a+1)*32=a*32+32 by omega,List.take_add,A,FO,show i*32+a*32=32*(i+a) by omega]
   have ca:Hid (∀ a,a<32->((now.drop (32*(i+a))).take 32).length=32):=Lh fun a U=>by rw[BA,Cb,aj.out];omega
   have de:=Lh A;have dd:=Lh (j.out.to ai.out);clear A;have dj:Hid (w.heap.size<=c.heap.size):=Lh j.out.size;have cn:Hid (p<c.heap.size):=Lh k.out.lt;go_loopg [9,63] 32 fun gk v ej wr=>∃ a:Nat,a+gk=32/\ej=zI a/\Hid (wr.ownsRow c.heap.size 5 1 v (a*32) ((l.take (a*32)).map bV))/\Hid (Au c wr)
   case atStart=>exact⟨0,by omega,rfl,Lh (by rw[FU,Ei];exact bv.out),ai⟩
   case round =>
    obtain⟨a,U,rfl,u,e⟩:=hrel;have D:=Lh (k.out.Ab e.out id);clear X Y bm bn;obtain⟨X,Y,bm,bn⟩:=GQ D.out;by_cases ba:a<32
    ·have dx:(0:Int)<=(a:Int):=by omega
     have dy:(a:Int)<32:=by omega
     have br:=Lh (K.out wr (j.out.to e.out) p _ _ D.out);have z:=ac.out wr (j.out.to e.out) (i+a) (by omega);rw[Int.natCast_add] at z;obtain⟨s,G⟩:∃ s,s=(now.drop (32*(i+a))).take 32:=⟨_,rfl⟩
     have aw:s.length=32:=by rw[G];exact ca.out a ba
     have cc:Hid (l.take ((a+1)*32)=l.take (a*32)++s):=Lh (by rw[G];exact cb.out a ba);rw[<- G] at z;obtain⟨f,q⟩:∃ f,f=Dy s:=⟨_,rfl⟩
     have av:f.size=32:=by rw[q,E5,aw]
     have bz:Hid (Lib.strCells f=s.map bV):=Lh (by rw[UJ,q,Nn]);rw[<- q] at z;have bs:=Lh z;have M:=Lh av;have eg:(0:Int)<=(i:Int):=by omega
     have eh:(i:Int)<=33:=by omega
     obtain⟨bq,cf,rfl⟩:=BD u.out;have ar:=u.out;have cx:c.heap.size<=wr.heap.size:=e.out.size;clear z q av G aw;go_wp2_with (first
      |(go_at_call 78;refine br.out.mono ?_;rintro m C ⟨rfl,rfl⟩)
      |(go_at_call 75;refine bs.out.mono ?_;rintro m C ⟨rfl,rfl⟩)
      |(at_builtin;go_must (refine Lib.wpList_append_own_string _ rfl (.tmp 66) (.tmp 76) 84 9 rfl c.heap.size 5 bl Tryz.underlying84 Tryz.underlying9 az bi bj bk (.slice bq (a*32) cf) (a*32) _ rfl ar f rfl (by rw[M.out];unfold maxLen;omega) (by rw[M.out];omega) cx ?_);intro ei J cd H du))
     go_roundg (gk-1)
     case measure=>omega
     case rel =>
      refine⟨a+1,by omega,by go_num,Lh ?_,Lh (e.out.grown H fun Z m dq=>Bv (BQ ar m) (by omega))⟩;rw[cc.out,Bw,<- bz.out,show(a+1)*32=a*32+f.size by rw[M.out];omega];exact cd
    ·obtain rfl:a=32:=by omega
     obtain⟨F,Q,cy,dm,_⟩:=World.ownsRow.form u.out (by omega);subst cy;have dk:32*32<=Q:=(Mc u.out).1;obtain⟨_,r,ap,bg⟩:c.heap.size<=F/\∃ r,AX wr F 5 r/\r.toList.take (32*32)=(l.take (32*32)).map bV:=by
      rcases u.out.2 with⟨o,_⟩|⟨dh,dg,r,o,ck,cl,_,_,_,cm⟩
      ·cases o
      ·cases o;exact⟨ck,r,cl,by simpa using cm⟩
     have be:B.length=n:=by rw[<- E.out,BA];omega
     have cv:=fun Z=>MG (w:=wr) (ty:=9) F 0 n B r ap Tryz.underlying9 be (by
      intro ej b S;have g:ej<n:=by rw[<- be];exact(AC.1 S).1
      rw[<- E.out,Cf g] at S;have o:(r.toList.take (32*32))[ej]?= some (bV b):=by rw[bg,Ch,Cf (by omega),S];rfl
      rw[Cf (by omega)] at o;rw[Bz];simpa using o) Z
     obtain⟨f,q⟩:∃ f,f=Dy B:=⟨_,rfl⟩
     rw[<- q] at cv;have bx:=Lh q;have dn:F≠p:=by have:=cn.out;omega
     have df:=D.out.frozen 3;have bt:Hid (AX (wr.setCell (zA p 3) (.string f)) p 183 (Ij d num half f)):=Lh (D.out.Dw 3 (.string f));have bu:Hid (Au w (wr.setCell (zA p 3) (.string f))):=Lh ((j.out.to e.out).setCell (p:=zA p 3) (fun h=>by have:=al.out;dsimp only at h;omega) _);have ds:(n:Int)<=(Q:Int):=by omega
     have dt:n<=Q:=by omega
     clear q ap bg u ac K;go_wp2;go_ret2;exact⟨p,rfl,by rw[<- bx.out];exact bt.out,by have:=al.out;omega,bu.out⟩
end

section
variable {P:Program} {md:Region.Mode} {ops:Array Oper} {Q:Exit->Act->Bc->Prop} {S:Bc->Prop} {z:Nat}
def F9 (P:Program) (md:Region.Mode) (ops:Array Oper) (Q:Exit->Act->Bc->Prop) (S:Bc->Prop) (z:Nat):Nat->Array Bool->Act->Bc->Prop
 |0,l,a,w=>Region.ready md ops l=[]/\Q .normal a w
 |n+1,l,a,w=>(Region.ready md ops l=[]->Q .normal a w) /\
  ∀ i∈Region.ready md ops l,wpOp P ops Q i (fun b w'=>((l.setIfInBounds i true).getD z false=true∨S w')/\F9 P md ops Q S z n (l.setIfInBounds i true) b w') a w
theorem Td:∀ (n:Nat) (l:Array Bool) (a:Act) (w:Bc),F9 P md ops Q S z n l a w->wpAny P md ops Q n l a w
 |0,_,_,_,b=>b
 |n+1,_,_,_,b=>⟨b.1,fun i d=>wpOp_mono (fun c w' k=>Td n _ c w' k.2) (b.2 i d)⟩
def Q4 (md:Region.Mode) (ops:Array Oper) (z i:Nat):Bool:=match ops[z]? with
 |some b=>b.after.any fun a=>Region.binds md a&&a.on==i
 |none=>false
theorem kF {i:Nat} {g:Oper} {v:Value} (E:ops[i]?= some g) (L:∀ (j:Nat) (O:Oper) cs b,ops[j]?= some O->O.op≠.select cs b)
  (W:∀ c a w,Q (.panic c) (a.put g.dst v) w->Q (.panic c) a w) (x:Q4 md ops z i=true) (ac:i≠z) :
  ∀ (n:Nat) (l:Array Bool) (a:Act) (w:Bc),
   (∀ j h,ops[j]?= some h->j≠i->l.getD j true=false->(∀ e∈h.after,Region.binds md e=true->e.on≠i)->g.apart ops h=true) ->
   i∈Region.ready md ops l->l.getD z false=false->YieldsIf P ops S g v a->S w ->
   F9 P md ops Q S z n (l.setIfInBounds i true) (a.put g.dst v) w->F9 P md ops Q S z (n+1) l a w:=by
 intro n
 induction n with
 |zero =>
  intro l a w _ f _ u o m;refine⟨fun y=>(by rw[y] at f;cases f),fun j s=>?_⟩;by_cases d:j=i
  ·subst d;exact u.wpOp E o ⟨.inr o,m⟩
  ·have:=ready_mono s d;rw[m.1] at this;cases this
 |succ n ah =>
  intro l a w G f N u o m;refine⟨fun y=>(by rw[y] at f;cases f),fun j s=>?_⟩;by_cases d:j=i
  ·subst d;exact u.wpOp E o ⟨.inr o,m⟩
  ·have V:=m.2 j (ready_mono s d);obtain⟨I,h,t,X⟩:=mem_ready.1 s;have af:l.getD i false=false:=by
    have U:=(mem_ready.1 f).1;rcases Co i l.size with A|A
    ·simpa [A] using U
    ·simp[Array.getElem?_eq_none A]
   have K:∀ e∈h.after,Region.binds md e=true->e.on≠i:=fun e D C Y=>by
    have q:=X e D C;rw[Y,af] at q;cases q
   have J:j≠z:=fun e=>by
    subst e;unfold Q4 at x;rw[t] at x;simp only[Array.any_eq_true',De,beq_iff_eq] at x;obtain⟨e,D,C,ae⟩:=x;exact K e D C ae
   have ag:((l.setIfInBounds i true).setIfInBounds j true).getD z false=false:=by
    rw[getD_set_ne false J,getD_set_ne false ac];exact N
   have q:=wpOp_putIf t (G j h t d I K) (fun cs b=>L i g cs b E) (fun cs b=>L j h cs b t) W u V;have Z:∀ k p,ops[k]?= some p->k≠i->(l.setIfInBounds j true).getD k true=false ->
     (∀ e∈p.after,Region.binds md e=true->e.on≠i)->g.apart ops p=true:=fun k p aa ab M ad=>by
    refine G k p aa ab ?_ ad;by_cases H:j=k
    ·subst H;exact I
    ·rw[getD_set_ne true H] at M;exact M
   refine wpOp_mono (fun T R B=>?_) q;have F:S R:=by
    rcases B.2.1 with r|r
    ·rw[ag] at r;cases r
    ·exact r
   refine⟨.inr F,ah (l.setIfInBounds j true) T R Z (ready_mono f (BZ d)) (by rw[getD_set_ne false J];exact N) B.1 F ?_⟩;rw[Array.setIfInBounds_comm _ _ d];exact B.2.2
theorem MN {n:Nat} {l:Array Bool} {a:Act} {w:Bc} (i d:Nat) {v:Value} (p:∃ b,ops[i]?= some b/\b.dst=some d/\Region.wanted b (yielded ops a.tmps)=true/\∀ w,S w->(execOp a.eval b).run P w= .ok (.value v) w)
  (s:Region.noSelect ops=true) (o:Region.free md ops l i=true) (r:(Region.ready md ops l).contains i=true) (t:Q4 md ops z i=true) (u:l.getD z false=false) (q:(i==z)=false)
  (g:∀ c a w,Q (.panic c) (a.put (some d) v) w->Q (.panic c) a w) (m:S w)
  (e:F9 P md ops Q S z n (l.setIfInBounds i true) (a.put (some d) v) w):F9 P md ops Q S z (n+1) l a w:=by
 obtain⟨b,f,h,j,k⟩:=p;rw[<- h] at e g;exact kF f (Region.noSelect_spec s) g t (by simpa using q) n l a w (Region.free_spec f o) (by simpa using r) u (.inl ⟨j,k⟩) m e
theorem I7 {n:Nat} {l:Array Bool} {a:Act} {w:Bc} (i:Nat) {c:Oper} (g:Region.ready md ops l=[i]) (m:ops[i]?= some c)
  (h:∀ b:Act->Bc->Prop,Shut (∀ a w,S w->(S w->F9 P md ops Q S z n (l.setIfInBounds i true) a w)->b a w)->if Region.wanted c (yielded ops a.tmps)=true then Oper.wp P c a w b Q else b (a.put c.dst undef) w):F9 P md ops Q S z (n+1) l a w:=by
 refine⟨(fun d=>by rw[g] at d;cases d),fun o f=>?_⟩;rw[g,Ai] at f;subst f;exact wpOp_step m fun b j=>h b fun a w e k=>j a w ⟨.inr e,k e⟩
theorem nC {n:Nat} {l:Array Bool} {a:Act} {w:Bc} {c:Oper} (f:Region.ready md ops l=[z]) (j:ops[z]?= some c) (k:(l.setIfInBounds z true).getD z false=true)
  (g:∀ b:Act->Bc->Prop,Shut (∀ a w,F9 P md ops Q S z n (l.setIfInBounds z true) a w->b a w)->if Region.wanted c (yielded ops a.tmps)=true then Oper.wp P c a w b Q else b (a.put c.dst undef) w):F9 P md ops Q S z (n+1) l a w:=by
 refine⟨(fun d=>by rw[f] at d;cases d),fun m e=>?_⟩;rw[f,Ai] at e;subst e;exact wpOp_step j fun b h=>g b fun a w i=>h a w ⟨.inl k,i⟩
theorem nA {l:Array Bool} {a:Act} {w:Bc} (c:Region.ready md ops l=[]) (b:Q .normal a w):∀ n,F9 P md ops Q S z n l a w
 |0=>⟨c,b⟩
 |_+1=>⟨fun _=>b,by rw[c];simp⟩
theorem EQ (z:Nat) {e:Nat} {a:Act} {w:Bc} (d:P.follows .mixedOrders=true) (c:S w.drew)
  (b:S w.drew->F9 P .any ops Q S z ops.size (Array.replicate ops.size false) a w.drew):(Code.region e ops true).wp P Q a w :=
 wp_region_any d (Td _ _ _ _ (b c))
end
section
variable {P:Program} {md:Region.Mode} {ops:Array Oper} {Q:Exit->Act->Bc->Prop} {S:Bc->Prop} {z n:Nat} {l:Array Bool} {a:Act} {w:Bc}
theorem zq (i d:Nat) {v:Value} {b:Oper} {f:Act} (h:S w) (e:F9 P md ops Q S z n (l.setIfInBounds i true) f w)
  (o:ops[i]?= some b:=by rfl) (k:b.dst=some d:=by rfl) (t:Region.wanted b (yielded ops a.tmps)=true:=by rfl)
  (hx:∀ w,S w->(execOp a.eval b).run P w= .ok (.value v) w:=by(intro w j;(try dsimp only at j);go_simp;try with_reducible rfl))
  (q:a.put (some d) v=f:=by(simp only[Act.put,AZ,Bq,Bi];try rfl))
  (s:Region.noSelect ops=true:=by kernel_rfl) (m:Region.free md ops l i=true:=by kernel_rfl) (r:(Region.ready md ops l).contains i=true:=by kernel_rfl) (u:Q4 md ops z i=true:=by kernel_rfl) (x:l.getD z false=false:=by kernel_rfl) (p:(i==z)=false:=by kernel_rfl)
  (g:∀ c a w,Q (.panic c) (a.put (some d) v) w->Q (.panic c) a w:=by exact fun _ _ _ e=>e):F9 P md ops Q S z (n+1) l a w:=by
 subst q;exact MN i d ⟨b,o,k,t,hx⟩ s m r u x p g h e
theorem WH (i j:Nat) {d e:Oper} (q:ops[i]?= some d) (r:ops[j]?= some e)
  (o:∀ b:Act->Bc->Prop,Shut (∀ a w,S w->(S w->F9 P md ops Q S z n (l.setIfInBounds i true) a w)->b a w)->if Region.wanted d (yielded ops a.tmps)=true then Oper.wp P d a w b Q else b (a.put d.dst undef) w)
  (p:∀ b:Act->Bc->Prop,Shut (∀ a w,S w->(S w->F9 P md ops Q S z n (l.setIfInBounds j true) a w)->b a w)->if Region.wanted e (yielded ops a.tmps)=true then Oper.wp P e a w b Q else b (a.put e.dst undef) w)
  (m:Region.ready md ops l=[i,j]:=by kernel_rfl):F9 P md ops Q S z (n+1) l a w:=by
 refine⟨(fun h=>by rw[m] at h;cases h),fun s k=>?_⟩;rw[m,BI,Ai] at k;rcases k with rfl|rfl
 ·exact wpOp_step q fun b f=>o b fun a w c g=>f a w ⟨.inr c,g c⟩
 ·exact wpOp_step r fun b f=>p b fun a w c g=>f a w ⟨.inr c,g c⟩
theorem zl {b:Oper} (d:∀ c:Act->Bc->Prop,Shut (∀ a w,F9 P md ops Q S z n (l.setIfInBounds z true) a w->c a w)->if Region.wanted b (yielded ops a.tmps)=true then Oper.wp P b a w c Q else c (a.put b.dst undef) w) (e:ops[z]?= some b:=by rfl) (f:Region.ready md ops l=[z]:=by kernel_rfl) (g:(l.setIfInBounds z true).getD z false=true:=by kernel_rfl):F9 P md ops Q S z (n+1) l a w:=nC f e g d
theorem zd (b:Q .normal a w) {n:Nat} (c:Region.ready md ops l=[]:=by kernel_rfl):F9 P md ops Q S z n l a w:=nA c b _
end

section
variable {P:Program} {w:Bc} {g:Nat} {t ty:TypeId} {cs:Array Value} {d:TypeDesc}
theorem Gz {a:Func} {p:Nat} (b:a.results=#[.cell p ty]) (tmps:Array Value) (h:tmps.getD p undef=zP g) (c:AX w g t cs) (j:P.underlying ty=some d) (e:d.isRow=true) (f:(P.info? ty).map (·.size)=some cs.size) :
  (results a tmps).run P w= .ok (.agg cs) w:=by
 have i:tmps[p]?.getD undef=zP g:=by simpa using h
 simp[results,b,i,asAddr,IR c j e f]
end
section
variable {w w' W:Bc}
theorem M7:(Tryz.prog.info? 40).map (fun i=>(i.zero,i.size,i.bytes))=some (some (.agg #[zO,zN]),2,32):=by kernel_rfl
theorem Fp:(Tryz.prog.info? 40).map (·.size)=some 2:=by kernel_rfl
theorem Zt (op:Int) (A:Option Addr) (k:Nat) (a:List BB) (w:Bc) (g:0<=op) (h:op<8) (b:D9 a=true) (e:Ay Value.string w w.heap.size 1 A a) :
  Calls Tryz.prog 199 #[.agg #[zI op,.slice A a.length k]] w (Rt (.bool true) (Au w)):=by
 have q:=(Cm b).2.1;have c:=fun W (i:Au w W)=>Km A k a W (by omega) (fun m j=>by have:=ET ((Cm b).2.2 m j);omega) (e.AB i)
 rw[b] at c;have f:=Lh c;have d:Hid (Au w (w.alloc (.cells #[zI op,.slice A a.length k] 40))):=Lh ((Aa _ w).alloc _);have n:decide (0<=op)=true:=by simpa using g
 have o:decide (op<8)=true:=by simpa using h
 clear c b e;go_in;go_wp2_with (go_at_call 122;refine(f.out _ d.out).mono ?_;rintro p r ⟨rfl,l,rfl⟩);go_ret;exact⟨rfl,d.out.drewN l⟩
theorem Vn (op:Int) (d:Addr) (k:Nat) (a:List BB) (w:Bc) (Q:a.length<=100) (F:Ay Value.string w w.heap.size 1 (some d) a) :
  Calls Tryz.prog 201 #[.agg #[zI op,.slice (some d) a.length k]] w fun e w'=>∃ b c,e= .returned (.agg #[zI op,.slice b a.length c])/\w'.ownsRow w.heap.size 27 1 (.slice b a.length c) a.length (a.map Value.string)/\Au w w':=by
 have G:=Lh fun W (N:Au w W)=>JG d k a W (by omega) (F.AB N)
 have h:Hid (AX (w.alloc (.cells #[zI op,.slice (some d) a.length k] 40)) w.heap.size 40 #[zI op,.slice (some d) a.length k]):=Lh (AX.new w _ _);have i:Hid (Au w (w.alloc (.cells #[zI op,.slice (some d) a.length k] 40))):=Lh ((Aa _ w).alloc _);clear F;go_in;go_upto_region 1 with(fail)
 obtain⟨f,o⟩:∃ g,g=w.heap.size:=⟨_,rfl⟩
 have hs1:f+1=(w.alloc (.cells #[zI op,.slice (some d) a.length k] 40)).heap.size:=by simp[o]
 generalize w.alloc (.cells #[zI op,.slice (some d) a.length k] 40)=r at h i hs1 ⊢;have m:Hid (AX (r.alloc (.cells #[zO,zN] 40)) r.heap.size 40 #[zO,zN]):=Lh (AX.new r _ _);replace h:=Lh (h.out.alloc (.cells #[zO,zN] 40));replace i:=Lh (i.out.alloc (.cells #[zO,zN] 40));rw[<- hs1] at m;rw[<- o] at h ⊢;generalize r.alloc (.cells #[zO,zN] 40)=P at h m i ⊢;have A:=Lh o;clear hs1 o;have R:=m.out.lt;have K:Cl P f 1 (.slice (some d) a.length k):=h.out.cell 1;go_upto_region 2 with(go_at_call 130;refine(G.out _ i.out).mono ?_;rintro e j ⟨b,c,rfl,D,q⟩;have s:=Lh (h.out.Ab q id);have H:=Lh (m.out.Ab q id);have I:=Lh (i.out.to q);have C:=Lh D;have J:=s.out.frozen 1;have L:Cl j f 1 (.slice (some d) a.length k):=s.out.cell 1;clear q D)
 have n:Am (fun l=>l=f) j (j.setCell (zA f 1) (.slice b a.length c)):=(Aa (fun l=>l=f) j).setCell (p:=zA f 1) (fun _=>rfl) _;have y:Hid (AX (j.setCell (zA f 1) (.slice b a.length c)) f 40 #[zI op,.slice b a.length c]):=Lh (s.out.Dw 1 (.slice b a.length c));have z:=Lh (H.out.Ab n (by omega));have t:=Lh (Aj C.out n fun g x u=>by have:=BQ C.out x;omega);have B:=Lh (I.out.AJ n fun l hq u=>by have:=A.out;omega);generalize j.setCell (zA f 1) (.slice b a.length c)=S at y z t B ⊢;clear n L J K;go_wp2_with (first
  |(refine AA rfl (.tmp 1) rfl rfl y.out Tryz.underlying40 rfl Fp ?_)
  |(refine Bo rfl (.tmp 2) (.tmp 7) rfl rfl (cs':=#[zI op,.slice b a.length c]) rfl z.out Fp rfl (by simp[Value.oneCell']) ?_;intro T M E O;clear O))
 refine bodyPost_ret (v:=.agg #[zI op,.slice b a.length c]) (Gz (p:=2) Tryz.results201 _ rfl M Tryz.underlying40 rfl Fp) rfl ?_;exact⟨b,c,rfl,Du (Aj t.out E fun g x u=>by have:=BQ t.out x;omega) (by have:=i.out.size;omega),B.out.AJ E fun l hq u=>by have:=A.out;omega⟩
end

end Go.Proofs.YtcjcndnjpedniaaGreat
