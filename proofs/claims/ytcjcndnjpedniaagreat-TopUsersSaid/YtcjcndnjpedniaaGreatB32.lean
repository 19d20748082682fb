/- A part of the proof of TopUsers. -/
import Derived.Test.YtcjcndnjpedniaaGreatB31
namespace Go.Proofs.YtcjcndnjpedniaaGreat
set_option linter.all false
set_option maxRecDepth 100000
set_option maxHeartbeats 8000000
open Go.RowKit
structure Ol (w W:Bc) (L:List (Nat × TypeId × Array Value)):Prop where
 k:Au w W
 b:∀ p∈L,AX W p.1 p.2.1 p.2.2/\w.heap.size<=p.1
theorem Ol.AB {w W b:Bc} {L:List (Nat × TypeId × Array Value)} (a:Ol w W L) (c:Au W b):Ol w b L:=⟨a.k.to c,fun e d=>⟨(a.b e d).1.Ab c id,(a.b e d).2⟩⟩
theorem Ol.alloc {w W:Bc} {L:List (Nat × TypeId × Array Value)} (a:Ol w W L) (t:TypeId) (cs:Array Value):Ol w (W.alloc (.cells cs t)) ((W.heap.size,t,cs)::L) :=
 ⟨a.k.alloc _,fun c b=>by
  rcases BI.1 b with rfl|b
  ·exact⟨AX.new W t cs,a.k.size⟩
  ·exact⟨(a.b c b).1.alloc _,(a.b c b).2⟩⟩
section
variable {w w' W:Bc} {x:Option Nat} {cs:List Eb} {o:Nat->Nat} {d:Fb} {S:List Led.Vl} {M:List Led.Made} {T:List Int} {L:List Ca}
theorem XI:(Tryz.prog.info? 200).map (fun i=>(i.zero,i.size,i.bytes))=some (some (.agg #[zU 0,zO,zO]),3,24):=by kernel_rfl
def He (d:Fb) (ch nd bt:Int):Ca:=⟨3,d.key,C8 [ch],[C8 [24577+d.num,40961]],d.Kh,4611686018427387904,3*bt+nd⟩
def oD (x:Option Nat) (cs:List Eb) (jb jn f:Nat) (ch nd bt:Int) (d:Fb) (L:List Ca) (S:List Led.Vl) (M:List Led.Made) (T:List Int) (w:Bc) (o:Nat->Nat) (e:Ending) (w':Bc):Prop :=
 ∃ c a,e= .returned (.tuple #[.agg #[zI d.num,zI nd,.string (Dy (Hm ch (a++[He d ch nd bt])))],zO])/\Ik S c (d.key,Dy (Db (He d ch nd bt)))/\(∀ b,b∈a↔b∈L/\GY b d.Kh=true)/\a.length<=L.length/\FE x ((cs.set jn (Dv {d with L:=[(ch,nd,0)]})).set jb (Eg f c M T)) o w w'
theorem bW {jb jn js cy base:Nat} {ch nd bt ix:Int} (m:ED cs w o) (eu:cs[jb]?= some (Eg cy S M T)) (cv:cs[jn]?= some (Dv d)) (z:cs[js]?= some (Dz base d.st ix L)) (fa:d.kb=cy) (fe:jn≠jb) (ff:js≠jn) (fg:js≠jb) (ek:d.L=[]) (em:S.length<2000) (bb:0<=d.num) (bc:d.num<=2) (io:0<=nd) (ip:nd<=2) (fd:nd≠d.num) (jp:1<=bt) (jq:bt<=40) (cm:0<=d.boot) (cn:d.boot<=40)
  (il:ch=16385+50*(41*d.num+d.boot)) (fj:Cn (He d ch nd bt)) (el:∀ c∈L,Cn c) (fb:L.length<=6) (cf:Ca) (ev:cf∈L) (ew:GY cf d.Kh=true) :
  Calls Tryz.prog 51 #[zP d.nb,zI nd,zI bt] w (oD x cs jb jn cy ch nd bt d L S M T w o):=by
 obtain⟨jc,kg,ja,jd,y⟩:=m.node cv;have bd:=y.rl.1;rw[ek] at bd;obtain⟨I,K,rfl⟩:=BD bd;have aa:=Lh y;have dw:Hid (w.ownsRow 0 200 3 (.slice I 0 K) 0 []):=Lh bd;have bs:Hid (∀ B,(Value.slice I 0 K).ownBlock=some B->o B=jn+1):=Lh fun B im=>y.rl.2 B im
 have ds:Hid (o d.nb=jn+1):=Lh y.f;have gv:=Lh m;have gr:=Lh eu;have bu:=Lh cv;have hl:=Lh z;have gw:=Lh fa;have O:=Lh (Bf fe (Bf ff fg));have ca:Hid (Cl w d.nb 11 (.slice I 0 K)):=Lh (y.BR.cell 11);have ef:Hid (Cl w d.nb 3 (zI d.num)):=Lh (y.BR.cell 3);have jk:Hid (Cl w d.nb 4 (zI d.Kh)):=Lh (y.BR.cell 4);have jl:Hid (Cl w d.nb 5 (zU d.key)):=Lh (y.BR.cell 5);have ia:Hid (Cl w d.nb 6 (.bool false)):=Lh (y.BR.cell 6);have eg:Hid (Cl w d.nb 9 (zI d.boot)):=Lh (y.BR.cell 9);have bl:Hid (Loc o (w.alloc (.cells #[zO,zO,zE] 107)) w.heap.size 107 #[zO,zO,zE]):=Lh (Loc.new m _ (by decide) (by decide));have J:Hid (Au w (w.alloc (.cells #[zO,zO,zE] 107))):=Lh ((Aa _ w).alloc _);have gm:=Lh fun W (e:Au w W)=>Jn d.nb nd d.num W (Ae (y.BR.cell 3) e) io ip fd
 have go:=Lh fun W=>Qe d.num d.boot 0 W bb bc cm cn (by omega) (by omega)
 have co:Ey ch:=⟨by omega,by omega⟩
 have bk:Hid (∀ (W:Bc) (B l:Nat),AX W B 25 #[zU ch]->Calls Tryz.prog 91 #[zS B 0 1 l] W (Rt (.string (C8 [ch])) (Au W))):=Lh fun W B l n=>KW [ch] rfl rfl (by simp) (fun x hx=>by rw[Ai.1 hx];exact co) W n
 have an:=Lh fun W=>NT d.num W bb bc
 have gs:=Lh (Bf bb (Bf bc (Bf cm cn)));have dq:Hid (16385+50*(41*d.num+d.boot)+0=ch):=Lh (by omega);obtain⟨jv,fm⟩:∃ s,s=3*bt+nd:=⟨_,rfl⟩
 have ji:=Lh fm;have du:=Lh fj;have kn:=Lh (Bf el (Bf fb (Bf ev ew)));have bz:=Lh (Bf em co);have jo:3*bt<=120:=by omega
 have jr:decide (bt<1)=false:=dF;have jt:decide (40<bt)=false:=dF;clear m eu cv z fa fe ff fg ek em bb bc fd cm cn il fj el fb ev ew y bd co fm;obtain⟨iu,ez,ft,aj,ak⟩:=info_parts XI;obtain⟨iv,ct,fp,cx,fq⟩:=info_parts M6;go_in;go_upto_region 1 with(fail)
 obtain⟨F,cq⟩:∃ B,B=w.heap.size:=⟨_,rfl⟩
 generalize w.alloc (.cells #[zO,zO,zE] 107)=de at bl J ⊢;rw[<- cq] at bl ⊢;have gt:=Lh cq;clear cq;have je:=Ae ia.out J.out;have bi:=Ae ca.out J.out;go_upto_region 7 with(go_at_call 96;refine(gm.out _ J.out).mono ?_;rintro h kj ⟨rfl,rfl⟩)
 clear je;have X:=Ae ef.out J.out;have gl:=Ae eg.out J.out;refine GZ (fun W=>Cl W d.nb 3 (zI d.num)/\Cl W d.nb 9 (zI d.boot)/\Cl W d.nb 11 (.slice I 0 K)) ⟨X,gl,bi⟩ fun b=>?_
 have bn:=Lh (bl.out.AB (T0 de).drew);have br:=Lh (J.out.to (T0 de).drew);clear X gl bi;generalize de.drew=Q at bn br b ⊢;have N:=bn;have H:=br;clear bn br;refine hq 0 43 b ?_;refine hq 1 44 b ?_;refine hq 2 45 b ?_;refine hq 3 46 b ?_;refine hq 4 47 b ?_;refine hq 5 48 b ?_;refine hq 6 49 b ?_;refine hq 7 50 b ?_;refine hq 8 51 b ?_;refine hq 9 52 b ?_;refine hq 10 53 b ?_;refine hq 11 54 b ?_;refine hq 12 55 b ?_;refine hq 13 56 b ?_;refine hq 14 57 b ?_;refine hq 15 58 b ?_;refine hq 16 59 b ?_;refine Gg 17 fun g e=>?_
 go_simp;refine(go.out _).mono ?_;rintro h R ⟨rfl,rfl⟩;rw[dq.out];go_wp2;refine e.out _ _ ⟨Ae ef.out H.out,Ae eg.out H.out,Ae ca.out H.out⟩ fun b=>?_
 clear e g;refine hq 18 8 b ?_;refine zw ?_;clear b;have bi:=Ae ca.out H.out;have en:Q.ownsRow 0 200 3 (.slice I 0 K) 0 []:=Aj dw.out H.out fun _ _ m=>m
 have dx:=Lh en;have dn:=Lh (aa.out.BR.Ab H.out id);clear en;go_upto_region 9 with(at_builtin;go_must (refine wpList_append_lies _ rfl (.tmp 66) (.tmp 70) 67 rfl 0 200 iu _ 3 24 Tryz.underlying67 ez ft aj ak rfl (by omega) (.slice I 0 K) 0 _ rfl (dx.out.alloc _) (zA Q.heap.size 0) 1 1 [zU ch,zI nd,zO] rfl rfl (World.news_of_block (cs:=#[zU ch,zI nd,zO]) (t:=200) (fr:=(0,0)) (heap_alloc_new Q _)) (by simp[Value.oneCell']) (by omega) (by unfold maxLen;omega) (by omega) (by omega) (Q.heap.size+1) (by simp) ?_);intro C ar R af ah ba cu;have az:Am (fun l=>(Value.slice I 0 K).ownBlock=some l) Q R:=((Aa _ Q).alloc _).grown ah fun l m _=>m;have aw:=dn.out.Ab az (Ba dx.out dn.out (by decide));have ih:=aw.cell 11;have ii:=aw.frozen 11;have bo:=Lh aw;have dt:=Lh af;have ab:Hid (Loc o R F 107 #[zO,zO,zE]):=Lh ⟨N.out.BR.Ab az fun h=>by have:=bs.out F h;have:=N.out.z;omega,N.out.z,N.out.n1,N.out.n2⟩;have hv:Hid (Am (fun l=>o l=jn+1/\Ty [200,72] w l) w R):=Lh (((H.out.mono fun _ _ m=>m.elim).AJ az fun _ _ h=>h).mono fun l _ h=>⟨bs.out l h,Qf dw.out h (by decide)⟩);have dr:Hid (o C=jn+1∨(w.heap.size<=C/\C≠F)):=Lh (ba.imp (fun h=>bs.out C h) fun h=>by have:=H.out.size;have:=N.out.BR.lt;omega);clear af ah ba cu az aw)
 have ay:=(Aa (fun l=>l=d.nb) R).setCell (p:=zA d.nb 11) (fun _=>rfl) (zS C 0 1 ar);have ad:=Lh (hv.out.AJ ay fun l _ h=>by rw[show l=d.nb from h];exact⟨ds.out,_,_,aa.out.BR,by decide⟩);have Y:=Lh (bo.out.Dw 11 (zS C 0 1 ar));have bv:=Lh (Aj dt.out ay fun q hq h=>Ba dt.out bo.out (by decide) (by rw[hq,show q=d.nb from h]));have ac:Hid (Loc o _ F 107 #[zO,zO,zE]):=Lh ⟨ab.out.BR.Ab ay (ab.out.BR.GJ bo.out (by decide)),ab.out.z,ab.out.n1,ab.out.n2⟩;clear ay ih ii bi ez ft aj ak;generalize R.setCell (zA d.nb 11) (zS C 0 1 ar)=D at ad Y bv ac ⊢;obtain⟨cz,ep,eq,hA8,et⟩:=gv.out.mX (x:=x) jn (Dv {d with L:=[(ch,nd,0)]}) (fun l=>l=C) (ad.out.mono fun l _ h=>h.1) ⟨jc,zS C 0 1 ar,ja,jd,Y.out,.inl ds.out,(aa.out.ro.off ad.out (by decide) (by decide) (by decide)).wider fun l h=>.inl h,⟨bv.out,fun q hq=>by rw[<- KY hq];exact dr.out.imp id fun m=>⟨rfl,m.1,Gd bv.out (by simp[Value.ownBlock])⟩⟩,(aa.out.rc.off ad.out (by decide)).wider fun l h=>.inl h,(aa.out.rr.off ad.out (by decide)).wider fun l h=>.inl h⟩;have bx:=Lh ep;have hs:=Lh eq;have cw:w.heap.size<=F:=by have:=gt.out;omega
 have hg:=Lh cw;have fh:F≠C:=by
  have ij:=ac.out.z;rcases dr.out with m|m
  ·exact fun h=>by rw[h] at ij;omega
  ·exact fun h=>m.2 h.symm
 have he:Hid (Loc cz D F 107 #[zO,zO,zE]):=Lh ⟨ac.out.BR,et F cw fh,ac.out.n1,ac.out.n2⟩;clear ep eq hA8 et fh cw;have X:Cl D d.nb 3 (zI d.num):=Y.out.cell 3;have dg:Cl D d.nb 4 (zI d.Kh):=Y.out.cell 4;have dh:Cl D d.nb 5 (zU d.key):=Y.out.cell 5;have jm:=Lh (Bf X (Bf dg dh));have ae:Hid (IntKind.i64.wrap (IntKind.i64.wrap (3*bt)+nd)=3*bt+nd):=Lh (by
  have au:IntKind.i64.wrap (3*bt)=3*bt:=Dp _ (by omega) (by omega);rw[au];exact Dp _ (by omega) (by omega))
 go_cut [9] fun iz W=>∃ k j,iz=zP k/\Au D W/\AX W k 31 #[zI 3,zU d.key,.string (C8 [ch]),zS j 0 1 1,zI d.Kh,zI 4611686018427387904,zI (3*bt+nd)]/\AX W j 27 #[.string (C8 [24577+d.num,40961])]/\D.heap.size<=k/\D.heap.size<=j
 case first =>
  refine EQ 26 (S:=fun W=>Cl W d.nb 3 (zI d.num)/\Cl W d.nb 4 (zI d.Kh)/\Cl W d.nb 5 (zU d.key)) (by kernel_rfl) ⟨X,dg,dh⟩ fun b=>?_
  have kl:Hid (Au D D.drew):=Lh (Aa _ _).drew;generalize D.drew=U at kl b ⊢;have a:Hid (Ol U U []):=Lh ⟨Aa _ _,fun p iq=>by cases iq⟩;have f:=Lh b;refine zq 0 75 b ?_;refine zq 1 76 b ?_;refine zq 2 77 b ?_;refine zq 3 78 b ?_;refine zq 4 79 b ?_;refine zq 5 80 b ?_;refine zq 8 83 b ?_;refine zq 9 84 b ?_;refine zq 10 85 b ?_;refine zq 11 86 b ?_;refine zq 12 87 b ?_;refine zq 15 90 b ?_;refine zq 16 91 b ?_;refine zq 17 92 b ?_;refine zq 18 93 b ?_;refine zq 19 94 b ?_;refine zq 20 95 b ?_;refine zq 21 96 b ?_;refine zq 22 97 b ?_;refine zq 23 98 b ?_;refine WH 6 25 rfl rfl (fun g e=>?_) fun g e=>?_
  ·go_simp;have a:=Lh (a.out.alloc 25 #[zU ch]);refine e.out _ _ ⟨Ae f.out.1 a.out.k,Ae f.out.2.1 a.out.k,Ae f.out.2.2 a.out.k⟩ fun b=>?_
   clear e g;generalize U.alloc (.cells #[zU ch] 25)=gc at a b ⊢;generalize U.heap.size=aq at a ⊢;refine WH 7 25 rfl rfl (fun g e=>?_) fun g e=>?_
   ·go_simp;refine(bk.out _ _ _ (a.out.b (aq,25,#[zU ch]) (by simp)).1).mono ?_;rintro h gg ⟨rfl,i⟩;have a:=Lh (a.out.AB i);clear i;go_wp2;refine e.out _ _ ⟨Ae f.out.1 a.out.k,Ae f.out.2.1 a.out.k,Ae f.out.2.2 a.out.k⟩ fun b=>?_
    clear e g;refine WH 13 25 rfl rfl (fun g e=>?_) fun g e=>?_
    ·go_simp;refine(an.out _).mono ?_;rintro h bg ⟨rfl,i⟩;have a:=Lh (a.out.AB i);clear i;go_wp2;refine e.out _ _ ⟨Ae f.out.1 a.out.k,Ae f.out.2.1 a.out.k,Ae f.out.2.2 a.out.k⟩ fun b=>?_
     clear e g;refine WH 14 25 rfl rfl (fun g e=>?_) fun g e=>?_
     ·go_simp;have a:=Lh (a.out.alloc 27 #[.string (C8 [24577+d.num,40961])]);refine e.out _ _ ⟨Ae f.out.1 a.out.k,Ae f.out.2.1 a.out.k,Ae f.out.2.2 a.out.k⟩ fun b=>?_
      clear e g;generalize bg.alloc (.cells #[.string (C8 [24577+d.num,40961])] 27)=gh at a b ⊢;generalize bg.heap.size=j at a ⊢;refine zq 24 99 b ?_;refine zs 25 rfl fun g e=>?_
      go_simp;have a:=Lh (a.out.alloc 31 #[zO,zU 0,zE,zN,zO,zO,zO]);refine e.out _ _ ⟨Ae f.out.1 a.out.k,Ae f.out.2.1 a.out.k,Ae f.out.2.2 a.out.k⟩ fun b=>?_
      clear e g;generalize gh.alloc (.cells #[zO,zU 0,zE,zN,zO,zO,zO] 31)=kd at a b ⊢;generalize gh.heap.size=k at a ⊢;refine zl fun g e=>?_
      rw[AQ (by rfl)];refine Ck (.tmp 9) (.tmp 99) rfl rfl rfl (a.out.b (k,31,#[zO,zU 0,zE,zN,zO,zO,zO]) (by simp)).1 Cg rfl (by simp[Value.oneCell']) ?_;intro n kk z;clear z;rw[CZ (by rfl)];refine e.out _ _ ?_;clear e g;refine zd ?_;clear b;simp only[ae.out] at n kk ⊢;go_wp2;go_meet;exact⟨k,j,rfl,kl.out.to (a.out.k.AJ kk fun l i h=>by have:=(a.out.b (k,31,#[zO,zU 0,zE,zN,zO,zO,zO]) (by simp)).2;dsimp only at this;omega),n,(a.out.b (j,27,#[.string (C8 [24577+d.num,40961])]) (by simp)).1.Ab kk ((a.out.b (j,27,#[.string (C8 [24577+d.num,40961])]) (by simp)).1.GJ (a.out.b (k,31,#[zO,zU 0,zE,zN,zO,zO,zO]) (by simp)).1 (show(27:TypeId)≠31 from by decide)),AV kl.out.size (a.out.b (k,31,#[zO,zU 0,zE,zN,zO,zO,zO]) (by simp)).2,AV kl.out.size (a.out.b (j,27,#[.string (C8 [24577+d.num,40961])]) (by simp)).2⟩
     ·go_simp;have a:=Lh (a.out.alloc 31 #[zO,zU 0,zE,zN,zO,zO,zO]);refine e.out _ _ ⟨Ae f.out.1 a.out.k,Ae f.out.2.1 a.out.k,Ae f.out.2.2 a.out.k⟩ fun b=>?_
      clear e g;generalize bg.alloc (.cells #[zO,zU 0,zE,zN,zO,zO,zO] 31)=gi at a b ⊢;generalize bg.heap.size=k at a ⊢;refine zs 14 rfl fun g e=>?_
      go_simp;have a:=Lh (a.out.alloc 27 #[.string (C8 [24577+d.num,40961])]);refine e.out _ _ ⟨Ae f.out.1 a.out.k,Ae f.out.2.1 a.out.k,Ae f.out.2.2 a.out.k⟩ fun b=>?_
      clear e g;generalize gi.alloc (.cells #[.string (C8 [24577+d.num,40961])] 27)=ke at a b ⊢;generalize gi.heap.size=j at a ⊢;refine zq 24 99 b ?_;refine zl fun g e=>?_
      rw[AQ (by rfl)];refine Ck (.tmp 9) (.tmp 99) rfl rfl rfl (a.out.b (k,31,#[zO,zU 0,zE,zN,zO,zO,zO]) (by simp)).1 Cg rfl (by simp[Value.oneCell']) ?_;intro n kk z;clear z;rw[CZ (by rfl)];refine e.out _ _ ?_;clear e g;refine zd ?_;clear b;simp only[ae.out] at n kk ⊢;go_wp2;go_meet;exact⟨k,j,rfl,kl.out.to (a.out.k.AJ kk fun l i h=>by have:=(a.out.b (k,31,#[zO,zU 0,zE,zN,zO,zO,zO]) (by simp)).2;dsimp only at this;omega),n,(a.out.b (j,27,#[.string (C8 [24577+d.num,40961])]) (by simp)).1.Ab kk ((a.out.b (j,27,#[.string (C8 [24577+d.num,40961])]) (by simp)).1.GJ (a.out.b (k,31,#[zO,zU 0,zE,zN,zO,zO,zO]) (by simp)).1 (show(27:TypeId)≠31 from by decide)),AV kl.out.size (a.out.b (k,31,#[zO,zU 0,zE,zN,zO,zO,zO]) (by simp)).2,AV kl.out.size (a.out.b (j,27,#[.string (C8 [24577+d.num,40961])]) (by simp)).2⟩
    ·go_simp;have a:=Lh (a.out.alloc 31 #[zO,zU 0,zE,zN,zO,zO,zO]);refine e.out _ _ ⟨Ae f.out.1 a.out.k,Ae f.out.2.1 a.out.k,Ae f.out.2.2 a.out.k⟩ fun b=>?_
     clear e g;generalize gg.alloc (.cells #[zO,zU 0,zE,zN,zO,zO,zO] 31)=kf at a b ⊢;generalize gg.heap.size=k at a ⊢;refine zs 13 rfl fun g e=>?_
     go_simp;refine(an.out _).mono ?_;rintro h gj ⟨rfl,i⟩;have a:=Lh (a.out.AB i);clear i;go_wp2;refine e.out _ _ ⟨Ae f.out.1 a.out.k,Ae f.out.2.1 a.out.k,Ae f.out.2.2 a.out.k⟩ fun b=>?_
     clear e g;refine zs 14 rfl fun g e=>?_
     go_simp;have a:=Lh (a.out.alloc 27 #[.string (C8 [24577+d.num,40961])]);refine e.out _ _ ⟨Ae f.out.1 a.out.k,Ae f.out.2.1 a.out.k,Ae f.out.2.2 a.out.k⟩ fun b=>?_
     clear e g;generalize gj.alloc (.cells #[.string (C8 [24577+d.num,40961])] 27)=jw at a b ⊢;generalize gj.heap.size=j at a ⊢;refine zq 24 99 b ?_;refine zl fun g e=>?_
     rw[AQ (by rfl)];refine Ck (.tmp 9) (.tmp 99) rfl rfl rfl (a.out.b (k,31,#[zO,zU 0,zE,zN,zO,zO,zO]) (by simp)).1 Cg rfl (by simp[Value.oneCell']) ?_;intro n kk z;clear z;rw[CZ (by rfl)];refine e.out _ _ ?_;clear e g;refine zd ?_;clear b;simp only[ae.out] at n kk ⊢;go_wp2;go_meet;exact⟨k,j,rfl,kl.out.to (a.out.k.AJ kk fun l i h=>by have:=(a.out.b (k,31,#[zO,zU 0,zE,zN,zO,zO,zO]) (by simp)).2;dsimp only at this;omega),n,(a.out.b (j,27,#[.string (C8 [24577+d.num,40961])]) (by simp)).1.Ab kk ((a.out.b (j,27,#[.string (C8 [24577+d.num,40961])]) (by simp)).1.GJ (a.out.b (k,31,#[zO,zU 0,zE,zN,zO,zO,zO]) (by simp)).1 (show(27:TypeId)≠31 from by decide)),AV kl.out.size (a.out.b (k,31,#[zO,zU 0,zE,zN,zO,zO,zO]) (by simp)).2,AV kl.out.size (a.out.b (j,27,#[.string (C8 [24577+d.num,40961])]) (by simp)).2⟩
   ·go_simp;have a:=Lh (a.out.alloc 31 #[zO,zU 0,zE,zN,zO,zO,zO]);refine e.out _ _ ⟨Ae f.out.1 a.out.k,Ae f.out.2.1 a.out.k,Ae f.out.2.2 a.out.k⟩ fun b=>?_
    clear e g;generalize gc.alloc (.cells #[zO,zU 0,zE,zN,zO,zO,zO] 31)=jx at a b ⊢;generalize gc.heap.size=k at a ⊢;refine zs 7 rfl fun g e=>?_
    go_simp;refine(bk.out _ _ _ (a.out.b (aq,25,#[zU ch]) (by simp)).1).mono ?_;rintro h jy ⟨rfl,i⟩;have a:=Lh (a.out.AB i);clear i;go_wp2;refine e.out _ _ ⟨Ae f.out.1 a.out.k,Ae f.out.2.1 a.out.k,Ae f.out.2.2 a.out.k⟩ fun b=>?_
    clear e g;refine zs 13 rfl fun g e=>?_
    go_simp;refine(an.out _).mono ?_;rintro h gd ⟨rfl,i⟩;have a:=Lh (a.out.AB i);clear i;go_wp2;refine e.out _ _ ⟨Ae f.out.1 a.out.k,Ae f.out.2.1 a.out.k,Ae f.out.2.2 a.out.k⟩ fun b=>?_
    clear e g;refine zs 14 rfl fun g e=>?_
    go_simp;have a:=Lh (a.out.alloc 27 #[.string (C8 [24577+d.num,40961])]);refine e.out _ _ ⟨Ae f.out.1 a.out.k,Ae f.out.2.1 a.out.k,Ae f.out.2.2 a.out.k⟩ fun b=>?_
    clear e g;generalize gd.alloc (.cells #[.string (C8 [24577+d.num,40961])] 27)=jz at a b ⊢;generalize gd.heap.size=j at a ⊢;refine zq 24 99 b ?_;refine zl fun g e=>?_
    rw[AQ (by rfl)];refine Ck (.tmp 9) (.tmp 99) rfl rfl rfl (a.out.b (k,31,#[zO,zU 0,zE,zN,zO,zO,zO]) (by simp)).1 Cg rfl (by simp[Value.oneCell']) ?_;intro n kk z;clear z;rw[CZ (by rfl)];refine e.out _ _ ?_;clear e g;refine zd ?_;clear b;simp only[ae.out] at n kk ⊢;go_wp2;go_meet;exact⟨k,j,rfl,kl.out.to (a.out.k.AJ kk fun l i h=>by have:=(a.out.b (k,31,#[zO,zU 0,zE,zN,zO,zO,zO]) (by simp)).2;dsimp only at this;omega),n,(a.out.b (j,27,#[.string (C8 [24577+d.num,40961])]) (by simp)).1.Ab kk ((a.out.b (j,27,#[.string (C8 [24577+d.num,40961])]) (by simp)).1.GJ (a.out.b (k,31,#[zO,zU 0,zE,zN,zO,zO,zO]) (by simp)).1 (show(27:TypeId)≠31 from by decide)),AV kl.out.size (a.out.b (k,31,#[zO,zU 0,zE,zN,zO,zO,zO]) (by simp)).2,AV kl.out.size (a.out.b (j,27,#[.string (C8 [24577+d.num,40961])]) (by simp)).2⟩
  ·go_simp;have a:=Lh (a.out.alloc 31 #[zO,zU 0,zE,zN,zO,zO,zO]);refine e.out _ _ ⟨Ae f.out.1 a.out.k,Ae f.out.2.1 a.out.k,Ae f.out.2.2 a.out.k⟩ fun b=>?_
   clear e g;generalize U.alloc (.cells #[zO,zU 0,zE,zN,zO,zO,zO] 31)=ge at a b ⊢;generalize U.heap.size=k at a ⊢;refine zs 6 rfl fun g e=>?_
   go_simp;have a:=Lh (a.out.alloc 25 #[zU ch]);refine e.out _ _ ⟨Ae f.out.1 a.out.k,Ae f.out.2.1 a.out.k,Ae f.out.2.2 a.out.k⟩ fun b=>?_
   clear e g;generalize ge.alloc (.cells #[zU ch] 25)=ka at a b ⊢;generalize ge.heap.size=aq at a ⊢;refine zs 7 rfl fun g e=>?_
   go_simp;refine(bk.out _ _ _ (a.out.b (aq,25,#[zU ch]) (by simp)).1).mono ?_;rintro h kb ⟨rfl,i⟩;have a:=Lh (a.out.AB i);clear i;go_wp2;refine e.out _ _ ⟨Ae f.out.1 a.out.k,Ae f.out.2.1 a.out.k,Ae f.out.2.2 a.out.k⟩ fun b=>?_
   clear e g;refine zs 13 rfl fun g e=>?_
   go_simp;refine(an.out _).mono ?_;rintro h gf ⟨rfl,i⟩;have a:=Lh (a.out.AB i);clear i;go_wp2;refine e.out _ _ ⟨Ae f.out.1 a.out.k,Ae f.out.2.1 a.out.k,Ae f.out.2.2 a.out.k⟩ fun b=>?_
   clear e g;refine zs 14 rfl fun g e=>?_
   go_simp;have a:=Lh (a.out.alloc 27 #[.string (C8 [24577+d.num,40961])]);refine e.out _ _ ⟨Ae f.out.1 a.out.k,Ae f.out.2.1 a.out.k,Ae f.out.2.2 a.out.k⟩ fun b=>?_
   clear e g;generalize gf.alloc (.cells #[.string (C8 [24577+d.num,40961])] 27)=kc at a b ⊢;generalize gf.heap.size=j at a ⊢;refine zq 24 99 b ?_;refine zl fun g e=>?_
   rw[AQ (by rfl)];refine Ck (.tmp 9) (.tmp 99) rfl rfl rfl (a.out.b (k,31,#[zO,zU 0,zE,zN,zO,zO,zO]) (by simp)).1 Cg rfl (by simp[Value.oneCell']) ?_;intro n kk z;clear z;rw[CZ (by rfl)];refine e.out _ _ ?_;clear e g;refine zd ?_;clear b;simp only[ae.out] at n kk ⊢;go_wp2;go_meet;exact⟨k,j,rfl,kl.out.to (a.out.k.AJ kk fun l i h=>by have:=(a.out.b (k,31,#[zO,zU 0,zE,zN,zO,zO,zO]) (by simp)).2;dsimp only at this;omega),n,(a.out.b (j,27,#[.string (C8 [24577+d.num,40961])]) (by simp)).1.Ab kk ((a.out.b (j,27,#[.string (C8 [24577+d.num,40961])]) (by simp)).1.GJ (a.out.b (k,31,#[zO,zU 0,zE,zN,zO,zO,zO]) (by simp)).1 (show(27:TypeId)≠31 from by decide)),AV kl.out.size (a.out.b (k,31,#[zO,zU 0,zE,zN,zO,zO,zO]) (by simp)).2,AV kl.out.size (a.out.b (j,27,#[.string (C8 [24577+d.num,40961])]) (by simp)).2⟩
 case rest =>
 obtain⟨k,j,rfl,i,n,es,fs,fn⟩:=hcut;clear X dg dh;have jg:=Lh i;have dp:Hid (Loc cz wc k 31 #[zI 3,zU d.key,.string (C8 [ch]),zS j 0 1 1,zI d.Kh,zI 4611686018427387904,zI (3*bt+nd)]):=Lh ⟨n,bx.out.z _ fs,by decide,by decide⟩;have ee:Hid (Loc cz wc j 27 #[.string (C8 [24577+d.num,40961])]):=Lh ⟨es,bx.out.z _ fn,by decide,by decide⟩;have hk:=Lh (bx.out.AB i);have hu:=Lh (hs.out.AB i);have hf:=Lh (he.out.AB i);clear i n es fs fn;have dk:=Lh (Rm (x:=x) hk.out (FX gr.out O.out.1) (MH bu.out) gw.out O.out.1 (He d ch nd bt) (zA j 0) 1 du.out (Gf (V:=Value.string) (fun _=>rfl) ee.out.BR [C8 [24577+d.num,40961]] rfl) bz.out.1);have au:Cu (He d ch nd bt) (some (zA j 0)) 1=#[zI 3,zU d.key,.string (C8 [ch]),zS j 0 1 1,zI d.Kh,zI 4611686018427387904,zI (3*bt+nd)]:=rfl;rw[au] at dk;clear au;go_upto_region 11 with(first
  |(refine AA rfl (.tmp 9) rfl rfl dp.out.BR Tryz.underlying31 rfl Cg ?_)
  |(go_at_call 93;refine dk.out.mono ?_;rintro h df ⟨rfl,ie,fl,fz,eo,ag⟩;have hm:=Lh fl;have ap:=Lh eo;have ea:=Lh (hu.out.trans ag);have dl:=Lh (dp.out.stay ag);have ec:=Lh (ee.out.stay ag);have bw:=Lh (hf.out.stay ag);clear fl eo ag))
 obtain⟨Z,cl,er⟩:=ap.out.store (FX (FX hl.out O.out.2.1.symm) O.out.2.2.symm);obtain⟨dc,db,da,dd,ax⟩:=ap.out.node (FX (MH bu.out) O.out.1.symm);have fw:Z.length=L.length:=by rw[<- cl,Be]
 have gn:=Lh (PY (t:=d.Kh) (nb:=d.nb) df er (by have:=kn.out.2.1;omega) (ax.BR.cell 0) (ax.BR.cell 4) ax.BR.lt);have ce:=Lh cl;have ei:=Lh fw;clear cl er ax dc db da dd fw;go_upto_region 12 with(go_at_call 98;refine gn.out.mono ?_;rintro h G ⟨di,fy,u,rfl,aj,ak,fu,fv,i⟩;have cb:=Lh aj;have ib:=Lh ak;have cd:=Lh fu;have eh:=Lh fv;have hh:=Lh (ap.out.AB i);have hn:=Lh (ea.out.AB i);have dm:=Lh (dl.out.AB i);have hw:=Lh (ec.out.AB i);have hb:=Lh (bw.out.AB i);have jj:=Lh i.size;clear aj ak fu fv i)
 have fk:0<u.length:=by
  have:=(cd.out cf).2 ⟨by rw[ce.out];exact kn.out.2.2.1,kn.out.2.2.2⟩;have:=List.length_pos_of_mem this
  rwa [Be] at this
 obtain⟨A,bf,av,-⟩:=J9 cb.out fk;obtain⟨km,ai⟩:∃ km,km=u.length:=⟨_,rfl⟩
 have bp:Hid (G.ownsRow 0 31 7 (.slice di km fy) km (BN Gy u)):=Lh (by rw[ai];exact Du cb.out (by omega));have gy:=Lh ai;rw[<- ai] at av ⊢;rw[av] at bp ⊢;have ju:km<=6:=by have:=eh.out;have:=ei.out;have:=kn.out.2.1;omega
 have cr:df.heap.size<=A:=BQ cb.out (show(Value.slice di u.length fy).ownBlock=some A by rw[<- ai,av];rfl);have ao:=Lh cr;have hz:Hid (w.heap.size<=df.heap.size):=Lh ea.out.t.size;have fi:fz A=0:=ap.out.z _ cr;have gu:=Lh fi;have cp:Tryz.prog.elem 23=31:=by simp[Program.elem,Tryz.underlying23]
 obtain⟨iw,gb,_⟩:=Mc bp.out;unfold maxLen at gb;have jf:∀ W,(Instr.slice 23 (zS A 0 km bf) none (some (zI (km:Int))) none).run Tryz.prog W= .ok (zS A 0 km bf) W:=fun W=>by
  rw[run_slice_h W 23 _ _ bf (by rw[cp];exact Tryz.underlying23) .i64 (km:Int) (by omega) (by omega),cp];simp[sizeOf,typeInfo,ct,cx,sliced,Addr.add_lit]
 have fc:min (km:Int) 7=(km:Int):=by omega
 have jh:=Lh fc;clear fk av fi cr ai cp iw gb;refine GZ (fun W=>AX W k 31 #[zI 3,zU d.key,.string (C8 [ch]),zS j 0 1 1,zI d.Kh,zI 4611686018427387904,zI (3*bt+nd)]) dm.out.BR.drew fun b=>?_
 have dy:=Lh (hh.out.AB (T0 G).drew);have eb:=Lh (hn.out.AB (T0 G).drew);have bm:=Lh (dm.out.AB (T0 G).drew);have ed:=Lh (hw.out.AB (T0 G).drew);have dv:=Lh (hb.out.AB (T0 G).drew);have bq:=Lh (Aj bp.out (T0 G).drew fun _ _ m=>m);have cc:=Lh fun E r=>Aj (ib.out E r) (T0 G).drew fun _ _ m=>m
 generalize G.drew=am at dy eb bm ed dv bq cc b ⊢;refine hq 0 105 b ?_;refine hq 1 106 b ?_;refine hq 2 107 b ?_;refine hq 3 108 b ?_;refine hq 4 109 b ?_;refine hq 5 110 (hx:=fun W ik=>Ce (.tmp 9) rfl rfl ik Tryz.underlying31 rfl Cg) b ?_;refine Gg 6 fun g e=>?_
 go_simp;refine e.out _ _ (bm.out.BR.alloc _) fun b=>?_
 clear e g;refine Gg 7 fun g e=>?_
 rw[AQ (by rfl)];refine wp_append_lies _ (.tmp 109) (.tmp 111) 23 rfl 0 31 iv _ 7 80 Tryz.underlying23 ct fp cx fq rfl (by omega) (zS A 0 km bf) km _ rfl (bq.out.alloc _) (zA am.heap.size 0) 1 1 [zI 3,zU d.key,.string (C8 [ch]),zS j 0 1 1,zI d.Kh,zI 4611686018427387904,zI (3*bt+nd)] rfl rfl (World.news_of_block (cs:=#[zI 3,zU d.key,.string (C8 [ch]),zS j 0 1 1,zI d.Kh,zI 4611686018427387904,zI (3*bt+nd)]) (t:=31) (fr:=(0,0)) (heap_alloc_new am _)) (by simp[Value.oneCell']) (by omega) (by unfold maxLen;omega) (by omega) (by omega) (am.heap.size+1) (by simp) ?_;intro ci cg bh af ah ba cu;rw[Ga 112 (by rfl)];dsimp only[Act.put,AZ,Bq,Bi];have P:Am (fun l=>l=A) am bh:=((Aa _ am).alloc _).grown ah fun l m _=>(KY m).symm
 have gz:=Lh af;have dz:=Lh (dy.out.off P gu.out);have ho:=Lh (eb.out.off P (by have:=hz.out;have:=ao.out;omega));have hc:=Lh (dv.out.BR.Ab P fun(h:F=A)=>by have:=bw.out.BR.lt;have:=ao.out;omega);have hy:=Lh (ed.out.BR.Ab P fun(h:j=A)=>by have:=ec.out.BR.lt;have:=ao.out;omega);have ic:=Lh fun E r=>Aj (cc.out E r) P fun q hq h=>Ex (cc.out E r) bq.out (by decide) hq (by rw[show q=A from h];rfl)
 have gp:=Lh (bm.out.BR.Ab P fun(h:k=A)=>by have:=dl.out.BR.lt;have:=ao.out;omega);clear af ah ba cu;refine e.out _ _ (gp.out) fun b=>?_
 clear e g;refine hq 8 10 b ?_;refine zw ?_;clear b jf fc ct fp cx fq;obtain⟨dc,db,da,dd,cj⟩:=dz.out.node (FX (MH bu.out) O.out.1.symm);have fo:BN Gy [(⟨He d ch nd bt,some (zA j 0),1⟩:Ed)]=[zI 3,zU d.key,.string (C8 [ch]),zS j 0 1 1,zI d.Kh,zI 4611686018427387904,zI (3*bt+nd)]:=rfl;have be:(u++[(⟨He d ch nd bt,some (zA j 0),1⟩:Ed)]).length=km+1:=by rw[Ap,<- gy.out];rfl
 have ey:Dt bh (some (zA ci 0)) (u++[(⟨He d ch nd bt,some (zA j 0),1⟩:Ed)]):=by
  refine⟨Ay.Hu (V:=Gy) (size:=7) (fun _=>rfl) (base:=0) (e:=31) (c:=cg) ?_,fun E r=>?_⟩
  ·rw[be];have:=gz.out;rw[<- fo,<- Ez] at this;exact this
  ·rcases Bd.1 r with r|r
   ·exact Ay.Ea (V:=Value.string) (fun _=>rfl) (ic.out E r)
   ·rw[Ai.1 r];exact Gf (V:=Value.string) (fun _=>rfl) hy.out [C8 [24577+d.num,40961]] rfl
 have fx:∀ E∈u++[(⟨He d ch nd bt,some (zA j 0),1⟩:Ed)],Cn E.c:=fun E r=>by
  rcases Bd.1 r with r|r
  ·exact kn.out.1 _ (by have:=(cd.out E.c).1 (Di r);rw[ce.out] at this;exact this.1)
  ·rw[Ai.1 r];exact du.out
 have ex:ch/8192=2:=by have:=dq.out;have:=bz.out.2;have:=gs.out;omega
 have bj:=fun W (e:Au bh W)=>Ri ch (some (zA ci 0)) cg _ W bz.out.2 ex fx (by rw[be];omega) (ey.AB e)
 rw[be] at bj;have dj:=Lh (UC (zI 1) (zU ch) zO zO zO zO zO (zN) zO zO (zE) (zS ci 0 (km+1) cg) d.nb d.num nd 0 _ bh (cj.BR.cell 3) cj.BR.lt bj);have gx:Hid ((u++[(⟨He d ch nd bt,some (zA j 0),1⟩:Ed)]).map (·.c)=u.map (·.c)++[He d ch nd bt]):=Lh (by rw[Bw];rfl);rw[gx.out] at dj;clear cj dc db da dd fo be ey fx ex bj;go_wp2_with (first
  |(go_at_call 99;refine dj.out.mono ?_;rintro h kh ⟨rfl,i⟩;have hi:=Lh (dz.out.AB i);have hp:=Lh (ho.out.AB i);have hd:=Lh (hc.out.Ab i id);clear i)
  |(refine Bo rfl (.tmp 6) (.tmp 118) rfl rfl (cs':=#[zI d.num,zI nd,.string (Dy (Hm ch (u.map (·.c)++[He d ch nd bt])))]) rfl hd.out Ht rfl (by simp[Value.oneCell']) ?_;intro ki ej ck ir;clear ir;have gq:=Lh ej;have hj:=Lh (hi.out.off ck bw.out.z);have hr:=Lh (hp.out.off ck hg.out);clear ej ck))
 refine bodyPost_ret (v:=.tuple #[.agg #[zI d.num,zI nd,.string (Dy (Hm ch (u.map (·.c)++[He d ch nd bt])))],zO]) (CB (p:=6) (q:=7) Tryz.results51 _ rfl rfl gq.out Tryz.underlying107 rfl Ht) rfl ?_;exact⟨ie,u.map (·.c),rfl,hm.out,fun c=>(cd.out c).trans (by rw[ce.out]),by rw[Be];have:=eh.out;have:=ei.out;omega,fz,hj.out,hr.out⟩
end

section
variable {w w' W:Bc} {cs:List Eb} {o:Nat->Nat} {d:Fb} {jn:Nat} {Q:Bc->Bc->Prop} {QV:Bc->Value->Bc->Prop}
theorem Wy {ch seq er v:Int} {fr:Int} {body:BB} (B:ED cs w o) (F:cs[jn]?= some (Dv d)) (C:0<=fr) (D:fr<=2) (G:fr≠d.num)
  (t:∀ W,Calls Tryz.prog 106 #[.string body] W (Rt (.tuple #[.agg #[zI 3,zU ch,zI seq,zO,zO,zO,zO,zN,zI er,zI v,zE,zN],zO]) (Au W)))
  (u:∀ W,Au w W->Calls Tryz.prog 109 #[zP d.nb,zI fr,.agg #[zI 3,zU ch,zI seq,zO,zO,zO,zO,zN,zI er,zI v,zE,zN]] W (Rt (.tuple #[]) fun w'=>Q W w')) :
  Calls Tryz.prog 58 #[zP d.nb,.agg #[zI fr,zI d.num,.string body]] w (Rt (.tuple #[zN,zO]) fun w'=>∃ A,Au w A/\Q A w'):=by
 obtain⟨ag,af,ae,ah,n⟩:=B.node F;have l:Hid (Cl w d.nb 3 (zI d.num)):=Lh (n.BR.cell 3);have T:Hid (Cl w d.nb 6 (.bool false)):=Lh (n.BR.cell 6);have L:=Lh fun W (i:Au w W)=>Jn d.nb fr d.num W (Ae l.out i) C D G
 have g:Hid (Au w (w.alloc (.cells #[zI fr,zI d.num,.string body] 107))):=Lh ((Aa _ w).alloc _);have c:Hid (AX (w.alloc (.cells #[zI fr,zI d.num,.string body] 107)) w.heap.size 107 #[zI fr,zI d.num,.string body]):=Lh (AX.new w _ _);have M:=Lh t;have N:=Lh u;have V:(d.num==d.num)=true:=beq_self_eq_true _;clear B F C D G t u n;go_in;go_upto_region 1 with(fail)
 obtain⟨b,q⟩:∃ Z,Z=w.heap.size:=⟨_,rfl⟩
 have ac:=Lh q;generalize w.alloc (.cells #[zI fr,zI d.num,.string body] 107)=r at c g ⊢;rw[<- q] at c ⊢;clear q;have ab:=Ae T.out g.out;go_upto_region 3 with(fail)
 clear ab;have s:Cl r b 0 (zI fr):=c.out.cell 0;have J:Cl r b 1 (zI d.num):=c.out.cell 1;have K:=Ae l.out g.out;refine GZ (fun W=>Cl W b 0 (zI fr)/\Cl W b 1 (zI d.num)/\Cl W d.nb 3 (zI d.num)) ⟨s,J,K⟩ fun a=>?_
 have e:=Lh c.out.drew;have h:=Lh g.out.drew;clear s J K;generalize r.drew=aa at e h a ⊢;refine hq 0 15 a ?_;refine hq 1 16 a ?_;refine hq 2 17 a ?_;refine hq 3 18 a ?_;refine hq 4 19 a ?_;refine hq 5 20 a ?_;refine hq 6 21 a ?_;refine hq 7 22 a ?_;refine hq 8 23 a ?_;refine hq 9 24 a ?_;refine hq 10 25 a ?_;refine hq 11 26 a ?_;refine hq 12 27 a ?_;refine hq 13 28 a ?_;refine Gg 14 fun U i=>?_
 go_simp;refine(L.out _ h.out).mono ?_;rintro f ai ⟨rfl,rfl⟩;go_wp2;refine i.out _ _ ⟨e.out.cell 0,e.out.cell 1,Ae l.out h.out⟩ fun a=>?_
 clear i U;refine hq 15 30 a ?_;refine hq 16 31 a ?_;refine zw ?_;clear a V;have ak:Cl aa b 2 (.string body):=e.out.cell 2;go_upto_region 9 with(first
  |(go_at_call 106;refine(M.out _).mono ?_;rintro f k ⟨rfl,j⟩;have O:=Lh (h.out.to j);have z:=Lh (e.out.Ab j id);clear j)
  |(refine Bo rfl (.tmp 6) (.tmp 36) rfl rfl (cs':=#[zI 3,zU ch,zI seq,zO,zO,zO,zO,zN,zI er,zI v,zE,zN]) rfl (AX.new _ _ _) BM rfl (by simp[Value.oneCell']) ?_;intro I m E X;clear X;have x:=Lh m;have p:=((Aa (fun H=>H=k.heap.size) k).alloc _).AJ E fun _ _ f=>f;have S:=Lh (z.out.Ab p (by have:=z.out.lt;omega));have P:Hid (Au k I):=Lh (p.mono fun H j f=>by omega);have y:=Lh (O.out.to P.out);have Y:=m.cell 0;clear m E p))
 generalize k.heap.size=ad at x Y ⊢;have s:Cl I b 0 (zI fr):=S.out.cell 0;go_wp2_with (first
  |(refine AA rfl (.tmp 6) rfl rfl x.out Tryz.underlying104 rfl BM ?_)
  |(go_at_call 109;refine(N.out _ y.out).mono ?_;rintro f aj ⟨rfl,hq⟩;have R:=Lh hq;clear hq))
 go_ret2;exact⟨rfl,_,y.out,R.out⟩
theorem YH {ch seq op arg:Int} {fr:Int} {body:BB} (B:ED cs w o) (F:cs[jn]?= some (Dv d)) (C:0<=fr) (D:fr<=2) (G:fr≠d.num)
  (t:∀ W,Calls Tryz.prog 106 #[.string body] W (Rt (.tuple #[.agg #[zI 2,zU ch,zI seq,zO,zI op,zI arg,zO,zN,zO,zO,zE,zN],zO]) (Au W)))
  (v:∀ W,Au w W->Calls Tryz.prog 110 #[zP d.nb,zI fr,.agg #[zI 2,zU ch,zI seq,zO,zI op,zI arg,zO,zN,zO,zO,zE,zN]] W fun e w'=>∃ u,e= .returned u/\QV W u w') :
  Calls Tryz.prog 58 #[zP d.nb,.agg #[zI fr,zI d.num,.string body]] w fun e w'=>∃ A u,e= .returned (.tuple #[u,zO])/\Au w A/\QV A u w':=by
 obtain⟨af,ae,ad,ag,n⟩:=B.node F;have l:Hid (Cl w d.nb 3 (zI d.num)):=Lh (n.BR.cell 3);have S:Hid (Cl w d.nb 6 (.bool false)):=Lh (n.BR.cell 6);have L:=Lh fun W (i:Au w W)=>Jn d.nb fr d.num W (Ae l.out i) C D G
 have g:Hid (Au w (w.alloc (.cells #[zI fr,zI d.num,.string body] 107))):=Lh ((Aa _ w).alloc _);have c:Hid (AX (w.alloc (.cells #[zI fr,zI d.num,.string body] 107)) w.heap.size 107 #[zI fr,zI d.num,.string body]):=Lh (AX.new w _ _);have M:=Lh t;have N:=Lh v;have U:(d.num==d.num)=true:=beq_self_eq_true _;clear B F C D G t v n;go_in;go_upto_region 1 with(fail)
 obtain⟨b,q⟩:∃ Y,Y=w.heap.size:=⟨_,rfl⟩
 have ab:=Lh q;generalize w.alloc (.cells #[zI fr,zI d.num,.string body] 107)=r at c g ⊢;rw[<- q] at c ⊢;clear q;have aa:=Ae S.out g.out;go_upto_region 3 with(fail)
 clear aa;have s:Cl r b 0 (zI fr):=c.out.cell 0;have J:Cl r b 1 (zI d.num):=c.out.cell 1;have K:=Ae l.out g.out;refine GZ (fun W=>Cl W b 0 (zI fr)/\Cl W b 1 (zI d.num)/\Cl W d.nb 3 (zI d.num)) ⟨s,J,K⟩ fun a=>?_
 have f:=Lh c.out.drew;have h:=Lh g.out.drew;clear s J K;generalize r.drew=Z at f h a ⊢;refine hq 0 15 a ?_;refine hq 1 16 a ?_;refine hq 2 17 a ?_;refine hq 3 18 a ?_;refine hq 4 19 a ?_;refine hq 5 20 a ?_;refine hq 6 21 a ?_;refine hq 7 22 a ?_;refine hq 8 23 a ?_;refine hq 9 24 a ?_;refine hq 10 25 a ?_;refine hq 11 26 a ?_;refine hq 12 27 a ?_;refine hq 13 28 a ?_;refine Gg 14 fun T i=>?_
 go_simp;refine(L.out _ h.out).mono ?_;rintro e ah ⟨rfl,rfl⟩;go_wp2;refine i.out _ _ ⟨f.out.cell 0,f.out.cell 1,Ae l.out h.out⟩ fun a=>?_
 clear i T;refine hq 15 30 a ?_;refine hq 16 31 a ?_;refine zw ?_;clear a U;have aj:Cl Z b 2 (.string body):=f.out.cell 2;go_upto_region 9 with(first
  |(go_at_call 106;refine(M.out _).mono ?_;rintro e k ⟨rfl,j⟩;have O:=Lh (h.out.to j);have z:=Lh (f.out.Ab j id);clear j)
  |(refine Bo rfl (.tmp 6) (.tmp 36) rfl rfl (cs':=#[zI 2,zU ch,zI seq,zO,zI op,zI arg,zO,zN,zO,zO,zE,zN]) rfl (AX.new _ _ _) BM rfl (by simp[Value.oneCell']) ?_;intro I m E V;clear V;have x:=Lh m;have p:=((Aa (fun H=>H=k.heap.size) k).alloc _).AJ E fun _ _ e=>e;have R:=Lh (z.out.Ab p (by have:=z.out.lt;omega));have P:Hid (Au k I):=Lh (p.mono fun H j e=>by omega);have y:=Lh (O.out.to P.out);have X:=m.cell 0;clear m E p))
 generalize k.heap.size=ac at x X ⊢;have s:Cl I b 0 (zI fr):=R.out.cell 0;go_wp2_with (first
  |(refine AA rfl (.tmp 6) rfl rfl x.out Tryz.underlying104 rfl BM ?_)
  |(go_at_call 110;refine(N.out _ y.out).mono ?_;rintro e ai ⟨u,rfl,hq⟩;have Q:=Lh hq;clear hq))
 go_ret2;exact⟨_,_,rfl,y.out,Q.out⟩
theorem YI {ch:Int} {L:List Ca} {fr:Int} {body:BB} (E:ED cs w o) (av:cs[jn]?= some (Dv d)) (F:0<=fr) (G:fr<=2) (M:fr≠d.num)
  (v:∀ W,Calls Tryz.prog 106 #[.string body] W fun e w'=>∃ (A:Option Addr) (k:Nat) (Z:List Ed),e= .returned (.tuple #[.agg #[zI 1,zU ch,zO,zO,zO,zO,zO,zN,zO,zO,zE,.slice A L.length k],zO])/\Z.map (·.c)=L/\Dt w' A Z/\Gh W.heap.size A Z/\Au W w')
  (x:∀ W A k Z,Au w W->Dt W A Z->Gh w.heap.size A Z->Z.map (·.c)=L->Calls Tryz.prog 107 #[zP d.nb,.agg #[zI 1,zU ch,zO,zO,zO,zO,zO,zN,zO,zO,zE,.slice A L.length k]] W (Rt (.tuple #[]) fun w'=>Q W w')) :
  Calls Tryz.prog 58 #[zP d.nb,.agg #[zI fr,zI d.num,.string body]] w (Rt (.tuple #[zN,zO]) fun w'=>∃ D,Au w D/\Q D w'):=by
 obtain⟨an,am,al,ao,au⟩:=E.node av;have n:Hid (Cl w d.nb 3 (zI d.num)):=Lh (au.BR.cell 3);have Y:Hid (Cl w d.nb 6 (.bool false)):=Lh (au.BR.cell 6);have S:=Lh fun W (j:Au w W)=>Jn d.nb fr d.num W (Ae n.out j) F G M
 have i:Hid (Au w (w.alloc (.cells #[zI fr,zI d.num,.string body] 107))):=Lh ((Aa _ w).alloc _);have f:Hid (AX (w.alloc (.cells #[zI fr,zI d.num,.string body] 107)) w.heap.size 107 #[zI fr,zI d.num,.string body]):=Lh (AX.new w _ _);have T:=Lh v;have U:=Lh x;have ab:(d.num==d.num)=true:=beq_self_eq_true _;clear E av F G M v x au;go_in;go_upto_region 1 with(fail)
 obtain⟨h,t⟩:∃ r,r=w.heap.size:=⟨_,rfl⟩
 have ai:=Lh t;generalize w.alloc (.cells #[zI fr,zI d.num,.string body] 107)=u at f i ⊢;rw[<- t] at f ⊢;clear t;have ah:=Ae Y.out i.out;go_upto_region 3 with(fail)
 clear ah;have O:Cl u h 0 (zI fr):=f.out.cell 0;have P:Cl u h 1 (zI d.num):=f.out.cell 1;have R:=Ae n.out i.out;refine GZ (fun W=>Cl W h 0 (zI fr)/\Cl W h 1 (zI d.num)/\Cl W d.nb 3 (zI d.num)) ⟨O,P,R⟩ fun a=>?_
 have g:=Lh f.out.drew;have b:=Lh i.out.drew;clear O P R;generalize u.drew=af at g b a ⊢;refine hq 0 15 a ?_;refine hq 1 16 a ?_;refine hq 2 17 a ?_;refine hq 3 18 a ?_;refine hq 4 19 a ?_;refine hq 5 20 a ?_;refine hq 6 21 a ?_;refine hq 7 22 a ?_;refine hq 8 23 a ?_;refine hq 9 24 a ?_;refine hq 10 25 a ?_;refine hq 11 26 a ?_;refine hq 12 27 a ?_;refine hq 13 28 a ?_;refine Gg 14 fun K j=>?_
 go_simp;refine(S.out _ b.out).mono ?_;rintro e ap ⟨rfl,rfl⟩;go_wp2;refine j.out _ _ ⟨g.out.cell 0,g.out.cell 1,Ae n.out b.out⟩ fun a=>?_
 clear j K;refine hq 15 30 a ?_;refine hq 16 31 a ?_;refine zw ?_;clear a ab;have ar:Cl af h 2 (.string body):=g.out.cell 2;go_upto_region 9 with(first
  |(go_at_call 106;refine(T.out _).mono ?_;rintro e m ⟨A,k,Z,rfl,N,I,J,l⟩;have V:=Lh (b.out.to l);have C:=Lh (g.out.Ab l id);have p:=Lh (Bf N (Bf I (J.mono b.out.size)));clear l N I J)
  |(refine Bo rfl (.tmp 6) (.tmp 36) rfl rfl (cs':=#[zI 1,zU ch,zO,zO,zO,zO,zO,zN,zO,zO,zE,.slice A L.length k]) rfl (AX.new _ _ _) BM rfl (by simp[Value.oneCell']) ?_;intro ag q H ac;clear ac;have y:=Lh q;have s:=((Aa (fun k=>k=m.heap.size) m).alloc _).AJ H fun _ _ e=>e;have aj:=Lh (C.out.Ab s (by have:=C.out.lt;omega));have z:Hid (Au m ag):=Lh (s.mono fun k l e=>by omega);have B:=Lh (V.out.to z.out);have ad:=q.cell 0;clear q H s))
 generalize m.heap.size=ak at y ad ⊢;go_wp2_with (first
  |(refine AA rfl (.tmp 6) rfl rfl y.out Tryz.underlying104 rfl BM ?_)
  |(go_at_call 107;refine(U.out _ _ _ _ B.out (p.out.2.1.AB z.out) p.out.2.2 p.out.1).mono ?_;rintro e aq ⟨rfl,hq⟩;have X:=Lh hq;clear hq))
 go_ret2;exact⟨rfl,_,B.out,X.out⟩
theorem Wx {c:Ca} {fr:Int} {body:BB} (ac:0<c.Bl.length) (S:ED cs w o) (ae:cs[jn]?= some (Dv d)) (T:0<=fr) (U:fr<=2) (af:fr≠d.num)
  (cf:∀ W,Calls Tryz.prog 106 #[.string body] W fun e w'=>∃ (A:Option Addr) (k:Nat) (Z:List Ed),e= .returned (.tuple #[.agg #[zI 5,zU 0,zO,zO,zO,zO,zO,zN,zO,zO,zE,.slice A 1 k],zO])/\Z.map (·.c)=[c]/\Dt w' A Z/\Gh W.heap.size A Z/\Au W w')
  (L:∀ W f k,Au w W->Ay Value.string W W.heap.size 1 (some f) c.Bl->w.heap.size<=f.block->Calls Tryz.prog 94 #[zP d.nb,.agg (Cu c (some f) k)] W (Rt (.bool true) fun w'=>Q W w')) :
  Calls Tryz.prog 58 #[zP d.nb,.agg #[zI fr,zI d.num,.string body]] w (Rt (.tuple #[zN,zO]) fun w'=>∃ j,Au w j/\Q j w'):=by
 obtain⟨ca,bz,bx,cb,F⟩:=S.node ae;have C:Hid (Cl w d.nb 3 (zI d.num)):=Lh (F.BR.cell 3);have ay:Hid (Cl w d.nb 6 (.bool false)):=Lh (F.BR.cell 6);have al:=Lh fun W (n:Au w W)=>Jn d.nb fr d.num W (Ae C.out n) T U af
 have v:Hid (Au w (w.alloc (.cells #[zI fr,zI d.num,.string body] 107))):=Lh ((Aa _ w).alloc _);have ce:Hid (AX (w.alloc (.cells #[zI fr,zI d.num,.string body] 107)) w.heap.size 107 #[zI fr,zI d.num,.string body]):=Lh (AX.new w _ _);have am:=Lh cf;have an:=Lh L;have bc:(d.num==d.num)=true:=beq_self_eq_true _;have aq:=Lh ac;clear S ae T U af cf L F ac;go_in;go_upto_region 1 with(fail)
 obtain⟨u,H⟩:∃ r,r=w.heap.size:=⟨_,rfl⟩
 have bs:=Lh H;generalize w.alloc (.cells #[zI fr,zI d.num,.string body] 107)=J at ce v ⊢;rw[<- H] at ce ⊢;clear H;have br:=Ae ay.out v.out;go_upto_region 3 with(fail)
 clear br;have ai:Cl J u 0 (zI fr):=ce.out.cell 0;have aj:Cl J u 1 (zI d.num):=ce.out.cell 1;have ak:=Ae C.out v.out;refine GZ (fun W=>Cl W u 0 (zI fr)/\Cl W u 1 (zI d.num)/\Cl W d.nb 3 (zI d.num)) ⟨ai,aj,ak⟩ fun a=>?_
 have s:=Lh ce.out.drew;have q:=Lh v.out.drew;clear ai aj ak;generalize J.drew=bp at s q a ⊢;refine hq 0 15 a ?_;refine hq 1 16 a ?_;refine hq 2 17 a ?_;refine hq 3 18 a ?_;refine hq 4 19 a ?_;refine hq 5 20 a ?_;refine hq 6 21 a ?_;refine hq 7 22 a ?_;refine hq 8 23 a ?_;refine hq 9 24 a ?_;refine hq 10 25 a ?_;refine hq 11 26 a ?_;refine hq 12 27 a ?_;refine hq 13 28 a ?_;refine Gg 14 fun K n=>?_
 go_simp;refine(al.out _ q.out).mono ?_;rintro e cc ⟨rfl,rfl⟩;go_wp2;refine n.out _ _ ⟨s.out.cell 0,s.out.cell 1,Ae C.out q.out⟩ fun a=>?_
 clear n K;refine hq 15 30 a ?_;refine hq 16 31 a ?_;refine zw ?_;clear a bc;have cd:Cl bp u 2 (.string body):=s.out.cell 2;go_upto_region 9 with(first
  |(go_at_call 106;refine(am.out _).mono ?_;rintro e B ⟨A,k,Z,rfl,ag,p,ad,y⟩;have ar:=Lh (q.out.to y);have R:=Lh (s.out.Ab y id);have x:=Lh (Bf ag (Bf p (ad.mono q.out.size)));clear y ag p ad)
  |(refine Bo rfl (.tmp 6) (.tmp 36) rfl rfl (cs':=#[zI 5,zU 0,zO,zO,zO,zO,zO,zN,zO,zO,zE,.slice A 1 k]) rfl (AX.new _ _ _) BM rfl (by simp[Value.oneCell']) ?_;intro g D V be;clear be;have N:=Lh D;have G:=((Aa (fun k=>k=B.heap.size) B).alloc _).AJ V fun _ _ e=>e;have bu:=Lh (R.out.Ab G (by have:=R.out.lt;omega));have O:Hid (Au B g):=Lh (G.mono fun k y e=>by omega);have au:=Lh (ar.out.to O.out);have ah:=D.cell 0;clear D V G))
 generalize B.heap.size=bm at N ah ⊢;obtain⟨b,rfl,I⟩:∃ b,Z=[b]/\b.c=c:=by
  match Z,x.out.1 with
  |[b],e=>exact⟨b,rfl,by simpa using e⟩
 have p:=x.out.2.1.AB O.out;obtain⟨h,i,rfl,Y,aa⟩:=p.r 0 (by simp);have t:=p.s b (by simp);rw[I] at t;obtain⟨f,z⟩:∃ f,b.A=some f:=by
  obtain⟨bv,bw,e,_⟩:=t 0 (aq.out);exact⟨_,e⟩
 rw[z] at t;have X:=x.out.2.2.2 b (by simp) f z;have l:∀ m,m<7->g.cell? (zA h (i+m))=(Cu c (some f) b.k)[m]?:=fun m bb=>by
  have:=aa m bb;rw[FU,F7] at this;rw[this,<- I,<- z];rfl
 have ab:Cu c (some f) b.k=#[zI c.kind,zU c.Aq,.string c.Ad,.slice (some f) c.Bl.length b.k,zI c.BX,zI c.till,zI c.AO]:=rfl;have bf:Cl g h i (zI c.kind):=l 0 (by omega);have bg:Cl g h (i+1) (zU c.Aq):=l 1 (by omega);have bh:Cl g h (i+2) (.string c.Ad):=l 2 (by omega);have bi:Cl g h (i+3) (.slice (some f) c.Bl.length b.k):=l 3 (by omega);have bj:Cl g h (i+4) (zI c.BX):=l 4 (by omega);have bk:Cl g h (i+5) (zI c.till):=l 5 (by omega);have bl:Cl g h (i+6) (zI c.AO):=l 6 (by omega);have bn:Cl g bm 11 (zS h i 1 k):=N.out.cell 11;have aw:=Lh t;have ao:=Lh X;have M:=Lh fun W (n:Au w W) bd=>an.out W f b.k n bd ao.out
 rw[ab] at M;have bt:=Lh Y;clear p aa t X l ab Y z I x;go_wp2;go_loopg [52] 1 fun gk m wr=>(gk=1/\m=zO/\g=wr)∨(gk=0/\m=zI 1/\Hid (∃ j,Au w j/\Q j wr))
 case atStart=>exact .inl ⟨rfl,rfl,rfl⟩
 case round =>
  rcases hrel with⟨rfl,rfl,rfl⟩|⟨rfl,rfl,ba⟩
  ·have E:=(T0 g).alloc (.cells #[zI c.kind,zU c.Aq,.string c.Ad,.slice (some f) c.Bl.length b.k,zI c.BX,zI c.till,zI c.AO] 31);have ap:=Lh (AX.new g 31 #[zI c.kind,zU c.Aq,.string c.Ad,.slice (some f) c.Bl.length b.k,zI c.BX,zI c.till,zI c.AO]);have P:=Lh (au.out.to E);have ax:=Lh (aw.out.AB E);clear E;go_wp2_with (first
    |(refine AA rfl (.tmp 9) rfl rfl ap.out Tryz.underlying31 rfl Cg ?_)
    |(go_at_call 94;refine(M.out _ P.out ax.out).mono ?_;rintro e bq ⟨rfl,hq⟩;have av:Hid (∃ j,Au w j/\Q j bq):=Lh ⟨_,P.out,hq⟩;clear hq))
   go_roundg 0
   case measure=>omega
   case rel=>exact .inr ⟨rfl,rfl,av⟩
  ·clear ah bf bg bh bi bj bk bl bn;go_wp2;go_ret2;exact⟨rfl,ba.out⟩
end

end Go.Proofs.YtcjcndnjpedniaaGreat
