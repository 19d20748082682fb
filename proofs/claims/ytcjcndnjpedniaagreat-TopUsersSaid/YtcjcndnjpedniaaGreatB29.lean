/- A part of the proof of TopUsers. -/
import Derived.Test.YtcjcndnjpedniaaGreatB28
namespace Go.Proofs.YtcjcndnjpedniaaGreat
set_option linter.all false
set_option maxRecDepth 100000
set_option maxHeartbeats 8000000
open Go.RowKit
section
variable {rm room uses:Int} {cs:List Eb} {o o':Nat->Nat} {w w' W W':Bc} {d:Fb} {j p mb:Nat} {Y:List (Iu × Int)} {L:List Ca}
theorem Kg {p:Addr} {v:Value} (a:w.cell? p=some v):p.block<w.heap.size:=by
 rcases Co p.block w.heap.size with b|b
 ·exact b
 ·have c:w.heap[p.block]?= none:=Array.getElem?_eq_none b;unfold World.cell? at a;rw[c] at a;cases a
theorem Fz {p:Addr} {v:Value} (a:w.cell? p=some v) (ob:Obj):(w.alloc ob).cell? p=some v:=(((T0 w).alloc ob).cell (Kg a) id).trans a
theorem Ae {p:Addr} {v:Value} (a:w.cell? p=some v) (b:Au w w'):w'.cell? p=some v:=(b.cell (Kg a) id).trans a
theorem ZF (d:ED cs w o) (z:cs[j]?= some (EP p mb room uses Y)) (ob op ver a t:Int) (A:Option Addr) (c:Nat) (b:List BB) (B:b.length<=1000) (F:∀ s∈b,s.size<=1000000) (E:Ay Value.string w w.heap.size 1 A b) (C:i64 ob) (D:i64 op) (q:∀ y∈Y,y.1.turn<a) :
  Calls Tryz.prog 218 #[zP p,.agg #[zI ob,zI op,.slice A b.length c,zI ver,zI a],zI t] w (Rt (.tuple #[zO,.bool false]) fun w'=>∃ e,(∀ y∈e,y∈Y)/\e.length<=Y.length/\Am (fun k=>o k=j+1) w w'/\FE none (cs.set j (EP p mb room uses e)) o w w'):=by
 obtain⟨hC,u,r⟩:=d.cache z;refine(iB hC ob op ver a t A c b B F E C D).mono ?_;rintro h w' ⟨rfl,i,x⟩;have n:OH ⟨ob,op,b⟩ ver a t Y=none:=by
  unfold OH;split
  ·split
   ·rename_i y g;have v:=q y (M4 g).1;have f:fresh y.1 ver a t=false:=by unfold fresh;rw[Ag];omega
    rw[f];rfl
   ·rfl
  ·rfl
 have m:(∀ y∈PG ⟨ob,op,b⟩ ver a t uses Y,y∈Y)/\(PG ⟨ob,op,b⟩ ver a t uses Y).length<=Y.length:=by
  unfold PG;split
  ·split
   ·rename_i y g;have v:=q y (M4 g).1;have f:fresh y.1 ver a t=false:=by unfold fresh;rw[Ag];omega
    rw[f];exact⟨fun I H=>(I9.1 H).1,EU _ _⟩
   ·exact⟨fun _ d=>d,AY _⟩
  ·exact⟨fun _ d=>d,AY _⟩
 have G:VH ⟨ob,op,b⟩ ver a t uses Y=uses:=by unfold VH;rw[n];rfl
 rw[G] at i;rw[n];have l:Am (fun k=>o k=j+1) w w':=x.mono fun k _ h=>by
  rcases h with rfl|rfl
  ·exact u
  ·exact r
 exact⟨rfl,_,m.1,m.2,l,d.upd j _ l ⟨i,.inl u,.inl r⟩⟩
theorem ZJ (f:ED cs w o) (u:cs[j]?= some (EP p mb room uses Y)) (C:1<=room) (F:uses<=1000000) (E:Y.length<=1000) (ob op ver k l q:Int) (A:Option Addr) (c:Nat) (b:List BB) (v:b.length<=1000) (D:∀ s∈b,s.size<=1000000) (B:Ay Value.string w w.heap.size 1 A b) (x:i64 ob) (z:i64 op) :
  Calls Tryz.prog 222 #[zP p,.agg #[zI ob,zI op,.slice A b.length c,zI ver,zI k],zI l,zI q] w fun e w'=>(∃ er,e= .returned (zI er))/\∃ r d,r<=uses+1/\d.length<=Y.length+1/\(∀ y∈d,y∈Y∨y.1.turn=k)/\FE none (cs.set j (EP p mb room r d)) o w w':=by
 obtain⟨hC,i,h⟩:=f.cache u;refine(jC hC C (.inl (by omega)) (by omega) ob op ver k l q A c b v D B x z).mono ?_;rintro e w' ⟨rfl,g,t⟩;have m:Am (fun n=>o n=j+1) w w':=t.mono fun n _ e=>by
  rcases e with rfl|rfl
  ·exact i
  ·exact h
 refine⟨⟨_,rfl⟩,?_⟩;split at g
 ·refine⟨_,_,Int.le_refl _,?_,?_,f.upd j _ m ⟨g,.inl i,.inl h⟩⟩
  ·unfold dA LJ Fe;have:=EU (fun y:Iu × Int=>!Wl y.1.q ⟨ob,op,b⟩) Y;split<;>simp<;>omega
  ·intro y a;unfold dA LJ at a;rw[Bd,Ai] at a;rcases a with a|rfl
   ·left;split at a
    ·exact(I9.1 (List.mem_of_mem_tail a)).1
    ·exact(I9.1 a).1
   ·exact .inr rfl
 ·exact⟨_,_,by omega,by omega,fun y a=>.inl a,f.upd j _ m ⟨g,.inl i,.inl h⟩⟩
theorem bK (op arg:Int) (w:Bc):Calls Tryz.prog 216 #[.agg (Vq op arg)] w (Rt (zI op) (Au w)):=by
 have a:Hid (Au w (w.alloc (.cells (Vq op arg) 48))):=Lh ((Aa _ w).alloc _);unfold Vq at *;go_in;go_wp2;go_ret;exact⟨rfl,a.out⟩
end

def FW:List Dj:=[0,1,2].map fun a:Nat=>⟨C8 [24577+(a:Int),40961],C8 [8193+(a:Int)]⟩
theorem XJ:(Tryz.prog.info? 43).map (·.size)=some 3:=by kernel_rfl
theorem K7:(Tryz.prog.info? 330).map (·.size)=some 5:=by kernel_rfl
section
variable {rm rt room uses:Int} {cs:List Eb} {o o':Nat->Nat} {w W W':Bc} {d:Fb} {mb:Nat} {Y:List (Iu × Int)} {L:List Ca}
theorem ZE {A:Option Addr} {k:Nat} {Z:List Ed} {a b:Nat} {w:Bc} (c:w.ownsRow a 31 7 (.slice A Z.length k) Z.length ((Z.map Gy).flatMap (·.cells.toList))) (d:∀ z∈Z,w.ownsRow b 27 1 (.slice z.A z.c.Bl.length z.k) z.c.Bl.length (z.c.Bl.map Value.string)):Dt w A Z :=
 ⟨Ay.Hu (V:=Gy) (fun _=>rfl) c,fun z e=>Ay.Ea (V:=Value.string) (fun _=>rfl) (d z e)⟩
theorem O0 {A:Option Addr} {k a:Nat} {w:Bc} (b:w.ownsRow a 381 2 (.slice A 3 k) 3 (BN UA [0,1,2])):Ay FH w w.heap.size 2 A FW:=Ay.Hu (V:=FH) (xs:=FW) (size:=2) (fun _=>rfl) b
theorem Sn:∀ r∈FW,r.BX.size<=16/\r.Kn.size<=16:=fun r a=>by
 obtain⟨b,_,rfl⟩:=Bp.1 a;exact⟨by rw[FD];simp,by rw[FD];simp⟩
def nZ (w:Bc) (o:Nat->Nat) (cs:List Eb) (jc g mb:Nat) (room uses clk:Int) (Y:List (Iu × Int)) (L:List Ca) (h:BB) (cw:List BB) (e:Ending) (w':Bc):Prop :=
 ∃ d c f a,e= .returned (.tuple #[zI d,zO])/\(∀ b,b∈c↔b∈L/\GY b clk=true)/\RD FW c [h] cw 200 d/\f<=uses+1/\a.length<=Y.length+1/\(∀ i∈a,i.1.turn<=(L.length:Int))/\FE none (cs.set jc (EP g mb room f a)) o w w'
theorem TI {Z:List Ed} (a:∀ z∈Z,Cn z.c):Hg Z<=16*Z.length:=by
 unfold Hg
 induction Z with
 |nil=>simp
 |cons z Z c =>
  have e:=(Cm (a z (by simp)).set).2.1;have f:=c fun d b=>a d (by simp[b])
  simp only[Dm,List.sum_cons,BF];omega
theorem Ui {b jn js jt jc je:Nat} {ch l op arg:Int} {cw:List BB} {x:DZ} (g:ED cs w o) (ao:cs[jn]?= some (Dv d)) (fq:d.ob=some x) (km:cs[js]?= some (Dz b d.st rm L)) (ht:cs[jt]?= some (Hy b d.tb je rt [(ch,cw,l)] [])) (bh:cs[jc]?= some (EP d.ca mb room uses Y)) (jf:jn≠jc) (ke:js≠jc)
  (fn:Ey ch) (hx:G9 x) (fu:x.op=op) (ha:G8 op arg) (fr:∀ c∈L,Cn c) (fo:L.length<=20) (cv:D9 cw=true) (bi:∀ s∈cw,s.size<=16) (cx:∀ y∈Y,y.1.turn<(L.length:Int)) (db:uses<=1000000) (fj:Y.length<=100) (da:1<=room) :
  Calls Tryz.prog 191 #[zP d.nb,zU ch,.agg #[zO,zI op,zI arg,zO,zN]] w (nZ w o cs jc d.ca mb room uses d.Kh Y L x.who cw):=by
 obtain⟨jm,jl,jk,jo,D⟩:=g.node ao;have ap:=D.ro;rw[fq] at ap;obtain⟨M,a,c,K,Q,cl,ip,R,ir,rfl,ag,gd,ge,gf⟩:=ap;obtain⟨Z,cu,co⟩:=g.store km;have ga:Z.length=L.length:=by rw[<- cu,Be]
 have im:=Lh cu;have ib:=Lh fr;have iw:=(Cm cv).2.1;obtain⟨bn,bk⟩:∃ n,n=cw.length:=⟨_,rfl⟩
 obtain⟨ah,bj⟩:∃ n:Int,n=(L.length:Int):=⟨_,rfl⟩
 have bl:=D.BR.lt;have ad:=Lh bl;have hm:Hid (Cl w d.nb 0 (zP d.st)):=Lh (D.BR.cell 0);have hn:Hid (Cl w d.nb 1 (zP d.tb)):=Lh (D.BR.cell 1);have ho:Hid (Cl w d.nb 2 (zP d.ca)):=Lh (D.BR.cell 2);have hp:Hid (Cl w d.nb 4 (zI d.Kh)):=Lh (D.BR.cell 4);have ef:Hid (Cl w d.nb 10 (zS M a 1 c)):=Lh (D.BR.cell 10);have cm:=(T0 w).alloc (.cells #[zO,zI op,zI arg,zO,zN] 48);have ie:Hid (ED cs (w.alloc (.cells #[zO,zI op,zI arg,zO,zN] 48)) o):=Lh (g.AB cm);have al:=Lh cm;have cb:Hid (AX (w.alloc (.cells #[zO,zI op,zI arg,zO,zN] 48)) w.heap.size 48 #[zO,zI op,zI arg,zO,zN]):=Lh (AX.new w _ _);have ds:=Lh fun W (e:Au w W)=>eP (g.AB e) ht fn
 have dq:Hid (∀ W,Calls Tryz.prog 216 #[.agg #[zO,zI op,zI arg,zO,zN]] W (Rt (zI op) (Au W))):=Lh fun W=>bK op arg W
 have aw:=Lh fun W (e:Au w W)=>eH (co.AB e)
 have gs:=Lh Yy;have fp:o d.nb=jn+1:=D.f;have cp:=fun W (m:Am (fun kk=>o kk=jc+1) w W)=>co.Ab m fun kk (kj:o kk=js+1) (kc:o kk=jc+1)=>by omega
 have af:=fun W (m:Am (fun kk=>o kk=jc+1) w W) i=>(m.cell (p:=zA d.nb i) bl fun(kj:o d.nb=jc+1)=>by omega).trans (D.BR.cell i)
 have gq:=Lh fun W (m:Am (fun kk=>o kk=jc+1) w W)=>PY (t:=d.Kh) (nb:=d.nb) W (cp W m) (by omega) (af W m 0) (af W m 4) (Bj bl m.size)
 have gt:=Lh fun W (m:Am (fun kk=>o kk=jc+1) w W)=>bN (t:=d.Kh) W (cp W m)
 have hl:=Lh fun W (m:Am (fun kk=>o kk=jc+1) w W)=>ag.far m (fun(kj:o M=jc+1)=>by have:o M=jn+1:=gd;omega) (fun(kj:o K=jc+1)=>by have:o K=jn+1:=ge;omega) fun(kj:o cl=jc+1)=>by have:o cl=jn+1:=gf;omega
 have X:Hid (∀ W,Am (fun kk=>o kk=jc+1) w W->Cl W d.nb 0 (zP d.st)/\Cl W d.nb 2 (zP d.ca)/\Cl W d.nb 4 (zI d.Kh)):=Lh fun W m=>⟨af W m 0,af W m 2,af W m 4⟩
 have hj:=Lh ag;have C:=Lh g;have hr:=Lh ao;have jz:=Lh km;have jv:=Lh bh;have hk:=Lh cx;have hc:=Lh (Bf db (Bf fj da));have gz:=Lh cv;have ik:=Lh hx;rw[<- bk] at ds;rw[ga,<- bj] at aw;have fs:0<=op/\op<8:=by have:=ha.o;omega
 have em:=Lh fs;have br:=Lh fun(W:Bc) (dj:Nat->Nat) (N:ED cs W dj) (kn:Option Addr) (I:Nat) (cz:Ay Value.string W W.heap.size 1 kn cw)=>ZF N bh 0 op x.version ah d.Kh kn I cw (by omega) (fun s km=>by have:=bi s km;omega) cz ⟨by omega,by omega⟩ ⟨by omega,by omega⟩ fun y de=>by rw[bj];exact cx y de
 have bs:=Lh fun(W:Bc) (dj:Nat->Nat) (bf:List (Iu × Int)) (N:ED (cs.set jc (EP d.ca mb room uses bf)) W dj) (ct:bf.length<=100) (iq bq:Int) (kn:Option Addr) (I:Nat) (cz:Ay Value.string W W.heap.size 1 kn cw)=>ZJ N (MH bh) da db (by omega) 0 op x.version ah iq bq kn I cw (by omega) (fun s km=>by have:=bi s km;omega) cz ⟨by omega,by omega⟩ ⟨by omega,by omega⟩
 rw[<- bk] at br bs;have cy:=Bf ag.k0 (Bf ag.k1 ag.k2);obtain⟨v,dc⟩:∃ v,v=x.value:=⟨_,rfl⟩
 obtain⟨T,bm⟩:∃ v,v=x.version:=⟨_,rfl⟩
 rw[<- dc,<- bm] at cy;rw[<- bm] at br bs;have jw:=Lh cy;have er:=Lh (Bf dc bm);have iz:w.heap.size≠d.nb:=by omega
 have jy:=Lh bi;have il:=Lh fu;have jx:=Lh fp;have hi:=Lh bj;have bc:=Lh bk;have ee:=Lh fo;have ff:=Lh ga;clear cp af gd ge gf fp g ao fq km ht bh D ag co cu fr iw bi bl cm fn fu ha fo cv cx db fj da hx bk bj fs cy iz dc bm;go_in;go_upto_region 1 with(fail)
 obtain⟨ab,dd⟩:∃ r,r=w.heap.size:=⟨_,rfl⟩
 have ka:=Lh dd;generalize w.alloc (.cells #[zO,zI op,zI arg,zO,zN] 48)=jp at cb ie al ⊢;rw[<- dd] at cb ⊢;clear dd;have ij:Hid (w.heap.size<=jp.heap.size):=Lh al.out.size;have ju:=(al.out.cell (p:=zA d.nb 1) ad.out id).trans hn.out;go_upto_region 2 with(go_at_call 215;refine(ds.out _ al.out).mono ?_;rintro kj gj ⟨kn,I,rfl,fh,ki⟩;have hs:=Lh fh;have eb:=Lh (al.out.to ki);have es:=Lh (cb.out.Ab ki id);clear ki fh)
 go_upto_region 4 with(fail)
 clear ju;have O:Cl gj ab 0 zO:=es.out.cell 0;have ar:=(eb.out.cell (p:=zA d.nb 10) ad.out id).trans ef.out;refine GZ (fun W=>Cl W ab 0 zO/\Cl W d.nb 10 (zS M a 1 c)) ⟨O,ar⟩ fun kh=>?_
 have cc:=Lh es.out.drew;have ay:=Lh eb.out.drew;have ek:=Lh hs.out.drew;generalize gj.drew=gl at cc ay ek kh ⊢;refine hq 0 30 kh ?_;refine hq 1 31 kh ?_;refine hq 2 32 kh ?_;refine hq 3 33 kh ?_;refine hq 4 34 kh ?_;refine hq 5 35 kh ?_;refine hq 6 36 kh ?_;refine hq 7 37 kh ?_;refine hq 8 38 kh ?_;refine hq 9 39 kh ?_;refine hq 10 40 kh ?_;refine hq 11 41 kh ?_;refine hq 12 42 kh ?_;refine hq 13 43 kh ?_;refine hq 14 44 kh ?_;refine zw ?_;clear kh O ar;have O:Cl gl ab 0 zO:=cc.out.cell 0;have ar:=(ay.out.cell (p:=zA d.nb 10) ad.out id).trans ef.out;have bo:=hj.out.AB ay.out;have dg:=bo.k0;have gc:=bo.k1;have dh:=bo.k2;rw[<- er.out.1] at dg;rw[<- er.out.2] at dh;clear bo;go_upto_region 6 with(fail)
 refine EQ 11 (S:=fun W=>Cl W ab 0 zO/\Cl W d.nb 10 (zS M a 1 c)/\Cl W M a (zI v)/\Cl W M (a+1) (zS K Q 1 R)/\Cl W M (a+2) (zI T)) (by kernel_rfl) ⟨O,ar,dg,gc,dh⟩ fun kh=>?_
 have cd:=Lh cc.out.drew;have az:=Lh ay.out.drew;have bv:=Lh ek.out.drew;clear O ar dg gc dh;generalize gl.drew=B at cd az bv kh ⊢;refine zq 0 45 kh ?_;refine zq 1 46 kh ?_;refine zq 2 47 kh ?_;refine zq 3 48 kh ?_;refine zq 4 49 kh ?_;refine zq 5 50 kh ?_;refine zq 6 51 kh ?_;refine zq 7 52 kh ?_;refine zq 8 53 kh ?_;refine zq 9 54 kh ?_;have C:=Lh kh;refine zs 10 rfl fun h e=>?_
 go_simp;refine e.out _ _ ⟨Fz C.out.1 _,Fz C.out.2.1 _,Fz C.out.2.2.1 _,Fz C.out.2.2.2.1 _,Fz C.out.2.2.2.2 _⟩ fun kh=>?_
 clear e h;have et:Hid (AX (B.alloc (.cells #[zO,zN,zO] 43)) B.heap.size 43 #[zO,zN,zO]):=Lh (AX.new B _ _);refine zl fun h e=>?_
 rw[AQ (by rfl)];refine Ck (.tmp 10) (.tmp 54) rfl rfl rfl et.out XJ rfl (by simp[Value.oneCell']) ?_;intro J m km;clear km;rw[CZ (by rfl)];refine e.out _ _ ?_;clear e h;refine zd ?_;have am:=Lh (az.out.AJ (((Aa (fun kk=>kk=B.heap.size) B).alloc _).AJ m fun _ _ kj=>kj) fun kk ki kj=>by have:=az.out.size;omega);have ce:=Lh (cd.out.Ab (((Aa (fun kk=>kk=B.heap.size) B).alloc _).AJ m fun _ _ kj=>kj) fun kj=>by have:=cd.out.lt;omega);have el:=Lh (Aj bv.out (((Aa (fun kk=>kk=B.heap.size) B).alloc _).AJ m fun _ _ kj=>kj) fun M iy kj=>by have:=Gd bv.out iy;omega);have ax:=Lh J;have eu:Hid (w.heap.size<=B.heap.size):=Lh az.out.size;clear m J et kh C;generalize (B.alloc (.cells #[zO,zN,zO] 43)).setRow B.heap.size #[zI v,zS K Q 1 R,zI T]=F at am ce el ax ⊢;generalize B.heap.size=ac at ax eu ⊢;go_upto_region 7 with(fail)
 have O:Cl F ab 0 zO:=ce.out.cell 0;have dk:Cl F ac 2 (zI T):=ax.out.cell 2;have ak:=(am.out.cell (p:=zA d.nb 0) ad.out id).trans hm.out;go_cut [11] fun jj W=>∃ kl,jj=zP kl/\Au F W/\F.heap.size<=kl/\AX W kl 330 #[zO,zI op,.slice kn bn I,zI T,zI ah]
 case first =>
  refine EQ 15 (S:=fun W=>Cl W ab 0 zO/\Cl W ac 2 (zI T)/\Cl W d.nb 0 (zP d.st)/\AX W ab 48 #[zO,zI op,zI arg,zO,zN]) (by kernel_rfl) ⟨O,dk,ak,ce.out.drew⟩ fun kh=>?_
  have ba:=Lh am.out.drew;have P:Hid (Au F.drew F.drew):=Lh (Aa _ _);have kp:Hid (Au F F.drew):=Lh (Aa _ _).drew;clear O dk ak;generalize F.drew=aa at ba P kp kh ⊢;have j:=Lh kh;refine zq 0 55 kh ?_;refine zq 1 56 kh ?_;refine zq 2 57 (hx:=fun W N=>Ce (.tmp 5) rfl rfl N.2.2.2 Tryz.underlying48 rfl IE) kh ?_;refine zq 4 59 kh ?_;refine zq 5 60 kh ?_;refine zq 6 61 kh ?_;refine zq 7 62 kh ?_;refine zq 8 63 kh ?_;refine zq 9 64 kh ?_;refine zq 10 65 kh ?_;refine zq 11 66 kh ?_;refine WH 3 14 rfl rfl (fun h e=>?_) fun h e=>?_
  ·go_simp;refine(dq.out _).mono ?_;rintro kj u ⟨rfl,ki⟩;have k:=Lh (P.out.to ki);clear ki;go_wp2;refine e.out _ _ ⟨Ae j.out.1 k.out,Ae j.out.2.1 k.out,Ae j.out.2.2.1 k.out,j.out.2.2.2.Ab k.out id⟩ fun kh=>?_
   clear e h;refine WH 12 14 rfl rfl (fun h e=>?_) fun h e=>?_
   ·go_simp;refine(aw.out _ (ba.out.to k.out)).mono ?_;rintro kj gm ⟨rfl,rfl⟩;go_wp2;refine e.out _ _ ⟨Ae j.out.1 k.out,Ae j.out.2.1 k.out,Ae j.out.2.2.1 k.out,j.out.2.2.2.Ab k.out id⟩ fun kh=>?_
    clear e h;refine zq 13 68 kh ?_;refine zs 14 rfl fun h e=>?_
    go_simp;refine e.out _ _ ⟨Ae j.out.1 (k.out.to ((T0 _).alloc _)),Ae j.out.2.1 (k.out.to ((T0 _).alloc _)),Ae j.out.2.2.1 (k.out.to ((T0 _).alloc _)),j.out.2.2.2.Ab (k.out.to ((T0 _).alloc _)) id⟩ fun kh=>?_
    clear e h;have ko:=Lh (k.out.to ((T0 u).alloc (.cells #[zO,zO,zN,zO,zO] 330)));have A:Hid (AX (u.alloc (.cells #[zO,zO,zN,zO,zO] 330)) u.heap.size 330 #[zO,zO,zN,zO,zO]):=Lh (AX.new u _ _);have H:Hid (F.heap.size<=u.heap.size):=Lh (kp.out.to k.out).size;generalize u.alloc (.cells #[zO,zO,zN,zO,zO] 330)=gn at ko A kh ⊢;generalize u.heap.size=kl at A H ⊢;refine zl fun h e=>?_
    rw[AQ (by rfl)];refine Ck (.tmp 11) (.tmp 68) rfl rfl rfl A.out K7 rfl (by simp[Value.oneCell']) ?_;intro J m km;clear km;rw[CZ (by rfl)];refine e.out _ _ ?_;clear e h;refine zd ?_;clear kh;go_wp2;go_meet;exact⟨kl,rfl,(kp.out.to ko.out).AJ m fun kk ki kj=>by have:=H.out;omega,H.out,J⟩
   ·go_simp;refine e.out _ _ ⟨Ae j.out.1 (k.out.to ((T0 _).alloc _)),Ae j.out.2.1 (k.out.to ((T0 _).alloc _)),Ae j.out.2.2.1 (k.out.to ((T0 _).alloc _)),j.out.2.2.2.Ab (k.out.to ((T0 _).alloc _)) id⟩ fun kh=>?_
    clear e h;have ko:=Lh (k.out.to ((T0 u).alloc (.cells #[zO,zO,zN,zO,zO] 330)));have A:Hid (AX (u.alloc (.cells #[zO,zO,zN,zO,zO] 330)) u.heap.size 330 #[zO,zO,zN,zO,zO]):=Lh (AX.new u _ _);have H:Hid (F.heap.size<=u.heap.size):=Lh (kp.out.to k.out).size;generalize u.alloc (.cells #[zO,zO,zN,zO,zO] 330)=gn at ko A kh ⊢;generalize u.heap.size=kl at A H ⊢;refine zs 12 rfl fun h e=>?_
    go_simp;refine(aw.out _ (ba.out.to ko.out)).mono ?_;rintro kj gm ⟨rfl,rfl⟩;go_wp2;refine e.out _ _ ⟨Ae j.out.1 ko.out,Ae j.out.2.1 ko.out,Ae j.out.2.2.1 ko.out,j.out.2.2.2.Ab ko.out id⟩ fun kh=>?_
    clear e h;refine zq 13 68 kh ?_;refine zl fun h e=>?_
    rw[AQ (by rfl)];refine Ck (.tmp 11) (.tmp 68) rfl rfl rfl A.out K7 rfl (by simp[Value.oneCell']) ?_;intro J m km;clear km;rw[CZ (by rfl)];refine e.out _ _ ?_;clear e h;refine zd ?_;clear kh;go_wp2;go_meet;exact⟨kl,rfl,(kp.out.to ko.out).AJ m fun kk ki kj=>by have:=H.out;omega,H.out,J⟩
  ·go_simp;refine e.out _ _ ⟨Ae j.out.1 (P.out.to ((T0 _).alloc _)),Ae j.out.2.1 (P.out.to ((T0 _).alloc _)),Ae j.out.2.2.1 (P.out.to ((T0 _).alloc _)),j.out.2.2.2.Ab (P.out.to ((T0 _).alloc _)) id⟩ fun kh=>?_
   clear e h;have ko:=Lh (P.out.to ((T0 aa).alloc (.cells #[zO,zO,zN,zO,zO] 330)));have A:Hid (AX (aa.alloc (.cells #[zO,zO,zN,zO,zO] 330)) aa.heap.size 330 #[zO,zO,zN,zO,zO]):=Lh (AX.new aa _ _);have H:Hid (F.heap.size<=aa.heap.size):=Lh (kp.out.to P.out).size;generalize aa.alloc (.cells #[zO,zO,zN,zO,zO] 330)=gn at ko A kh ⊢;generalize aa.heap.size=kl at A H ⊢;refine zs 3 rfl fun h e=>?_
   go_simp;refine(dq.out _).mono ?_;rintro kj u ⟨rfl,ki⟩;have k:=Lh (ko.out.to ki);have A:=Lh (A.out.Ab ki id);clear ki;go_wp2;refine e.out _ _ ⟨Ae j.out.1 k.out,Ae j.out.2.1 k.out,Ae j.out.2.2.1 k.out,j.out.2.2.2.Ab k.out id⟩ fun kh=>?_
   clear e h;refine zs 12 rfl fun h e=>?_
   go_simp;refine(aw.out _ (ba.out.to k.out)).mono ?_;rintro kj gm ⟨rfl,rfl⟩;go_wp2;refine e.out _ _ ⟨Ae j.out.1 k.out,Ae j.out.2.1 k.out,Ae j.out.2.2.1 k.out,j.out.2.2.2.Ab k.out id⟩ fun kh=>?_
   clear e h;refine zq 13 68 kh ?_;refine zl fun h e=>?_
   rw[AQ (by rfl)];refine Ck (.tmp 11) (.tmp 68) rfl rfl rfl A.out K7 rfl (by simp[Value.oneCell']) ?_;intro J m km;clear km;rw[CZ (by rfl)];refine e.out _ _ ?_;clear e h;refine zd ?_;clear kh;go_wp2;go_meet;exact⟨kl,rfl,(kp.out.to k.out).AJ m fun kk ki kj=>by have:=H.out;omega,H.out,J⟩
 case rest =>
 obtain⟨kl,rfl,ki,fz,J⟩:=hcut;have bt:=Lh (am.out.to ki);have ia:=Lh (Aj el.out ki fun _ _ g=>g);have gx:=Lh (ax.out.Ab ki id);have fc:=Lh J;have fd:Hid (w.heap.size<=kl):=Lh (AV am.out.size fz);clear J ki fz O dk ak;go_upto_region 8 with(fail)
 have au:=(bt.out.cell (p:=zA d.nb 2) ad.out id).trans ho.out;have av:=(bt.out.cell (p:=zA d.nb 4) ad.out id).trans hp.out;refine GZ (fun W=>Cl W d.nb 2 (zP d.ca)/\Cl W d.nb 4 (zI d.Kh)/\AX W kl 330 #[zO,zI op,.slice kn bn I,zI T,zI ah]) ⟨au,av,fc.out.drew⟩ fun kh=>?_
 have bb:=Lh bt.out.drew;have bd:=Lh ia.out.drew;have dz:=Lh gx.out.drew;have ci:=Lh fc.out.drew;clear au av;generalize wc.drew=jr at bb bd dz ci kh ⊢;refine hq 0 70 kh ?_;refine hq 1 71 kh ?_;refine hq 2 72 kh ?_;refine hq 3 73 kh ?_;refine hq 4 74 kh ?_;refine hq 6 76 kh ?_;refine hq 7 77 kh ?_;refine hq 8 78 kh ?_;refine hq 9 79 kh ?_;refine hq 10 80 kh ?_;refine hq 5 75 (hx:=fun W N=>Ce (.tmp 11) rfl rfl N.2.2 Tryz.underlying330 rfl K7) kh ?_;have gr:=Lh (br.out jr o (C.out.AB bb.out) kn I (by have:=Ay.Ea (V:=Value.string) (fun _=>rfl) (by rw[<- bc.out];exact bd.out);exact this));refine Gg 11 fun h e=>?_
 go_simp;refine gr.out.mono ?_;rintro kj E ⟨rfl,bf,ct,fk,an,bp,fi,cq⟩;have bw:Hid (Am (fun kk=>o kk=jc+1) w E):=Lh (Am.back bb.out an);have dt:=Lh (dz.out.Ab an fun kj=>by have:=C.out.z _ eu.out;omega);have cg:=Lh (ci.out.Ab an fun kj=>by have:=C.out.z _ fd.out;omega);have hu:=Lh (Aj bd.out an fun q hq kj=>by have:=BQ bd.out hq;have:=C.out.z q (AV ij.out this);omega);have ii:=Lh (Ew.after bb.out cq);have hz:Hid (bp kl=0):=Lh (cq.z _ ci.out.lt ⟨C.out.z _ fd.out,fun _ g=>by cases g⟩);have ig:=Lh fi;have cf:=Lh (Bf ct fk);have G:=Lh (Bf (X.out _ bw.out).2.1 (Bf (X.out _ bw.out).2.2 cg.out));clear ct fk an fi cq;go_wp2;refine e.out _ _ (G.out) fun kh=>?_
 clear e h;refine hq 12 69 kh ?_;refine hq 13 82 kh ?_;refine hq 14 83 kh ?_;refine hq 15 12 kh ?_;refine hq 16 13 kh ?_;refine zw ?_;clear kh;go_upto_region 11 with(fail)
 have gg:Cl E ac 1 (zS K Q 1 R):=dt.out.cell 1;have gh:Cl E kl 1 (zI op):=cg.out.cell 1;refine GZ (fun W=>Cl W ac 1 (zS K Q 1 R)/\Cl W kl 1 (zI op)) ⟨gg,gh⟩ fun kh=>?_
 have hd:Hid (Au E E):=Lh (Aa _ _);have eo:=Lh (bw.out.AJ (T0 E).drew fun _ _ g=>g.elim);have du:=Lh (dt.out.Ab (T0 E).drew id);have ev:=Lh (cg.out.Ab (T0 E).drew id);have eg:=Lh (Aj hu.out (T0 E).drew fun _ _ g=>g);have ec:=Lh (hd.out.to (T0 E).drew);clear gg gh;generalize E.drew=kf at eo du ev eg ec kh ⊢;refine hq 1 88 kh ?_;refine hq 3 90 kh ?_;refine hq 4 91 kh ?_;refine hq 5 92 kh ?_;refine hq 6 93 kh ?_;refine hq 7 94 kh ?_;refine Gg 0 fun h e=>?_
 go_simp;refine(gs.out _).mono ?_;rintro kj gi ⟨go,jb,rfl,ap,ki⟩;have ep:=Lh (eo.out.AJ ki fun _ _ g=>g.elim);have dv:=Lh (du.out.Ab ki id);have ew:=Lh (ev.out.Ab ki id);have hv:=Lh (Aj eg.out ki fun _ _ g=>g);have he:=Lh (ec.out.to ki);have G:Hid (Cl gi ac 1 (zS K Q 1 R)/\Cl gi kl 1 (zI op)):=Lh ⟨dv.out.cell 1,ew.out.cell 1⟩;have ic:=Lh ap;clear ap ki;go_wp2;refine e.out _ _ (G.out) fun kh=>?_
 clear e h;refine Gg 2 fun h e=>?_
 go_simp;refine(gq.out _ ep.out).mono ?_;rintro kj dl ⟨gp,jd,cj,rfl,fv,fw,fx,fy,ki⟩;have eq:=Lh (ep.out.AJ ki fun _ _ g=>g.elim);have dw:=Lh (dv.out.Ab ki id);have ex:=Lh (ew.out.Ab ki id);have eh:=Lh (Aj hv.out ki fun _ _ g=>g);have hf:=Lh (he.out.to ki);have G:Hid (Cl dl ac 1 (zS K Q 1 R)/\Cl dl kl 1 (zI op)):=Lh ⟨dw.out.cell 1,ex.out.cell 1⟩;have gy:=Lh (ZE fv fw);have en:=Lh (Aj ic.out ki fun _ _ g=>g);have ea:=Lh fun c=>(fx c).trans (by rw[im.out])
 have fe:=Lh fy;clear fv fw fx fy ki;go_wp2;refine e.out _ _ (G.out) fun kh=>?_
 clear e h;obtain⟨ck,rfl⟩:∃ ck,go=some ck:=by obtain⟨kb,bp,kj,_⟩:=O0 en.out 0 (by decide);exact⟨_,kj⟩
 have df:∀ z∈cj,Cn z.c:=fun z ja=>ib.out _ ((ea.out z.c).1 (Di ja)).1
 have aq:=hl.out _ eq.out;have ix:=TI df;have dp:=Lh (TA (roots:=FW) (b:=200) gp kn ck (zA cl ip) jb jd I K Q R ir op [x.who] cw cj dl em.out.1 em.out.2 (IU ik.out.may) gz.out df (by have:=fe.out;have:=ff.out;have:=ee.out;omega) gy.out (by have:=fe.out;have:=ff.out;have:=ee.out;have kj:FW.length=3:=rfl;omega) (by omega) (by omega) Sn (O0 en.out) aq.reads (by have:=Ay.Ea (V:=Value.string) (fun _=>rfl) (by rw[<- bc.out];exact eh.out);exact this) aq.lt.2.1 (by rw[<- il.out];exact aq.e0) aq.e1);rw[<- bc.out,show FW.length=3 from rfl,show((200:Nat):Int)=200 from rfl] at dp;clear aq ix df;refine Gg 8 fun h e=>?_
 go_simp;refine dp.out.mono ?_;rintro kj U ⟨⟨fg,rfl,fm⟩,ki⟩;have bx:=Lh (eq.out.AJ ki fun _ _ g=>g.elim);have dx:=Lh (dw.out.Ab ki id);have ey:=Lh (ex.out.Ab ki id);have hw:=Lh (Aj eh.out ki fun _ _ g=>g);have hg:=Lh (hf.out.to ki);have G:Hid (Cl U ac 1 (zS K Q 1 R)/\Cl U kl 1 (zI op)):=Lh ⟨dx.out.cell 1,ey.out.cell 1⟩;have gu:=Lh fm;clear fm ki;go_wp2;refine e.out _ _ (G.out) fun kh=>?_
 clear e h;refine hq 9 86 kh ?_;refine hq 10 96 kh ?_;refine hq 11 97 kh ?_;refine hq 12 14 kh ?_;refine hq 13 9 kh ?_;refine zw ?_;clear kh;go_upto_region 14 with(fail)
 have ak:=(X.out _ bx.out).1;have av:=(X.out _ bx.out).2.2;refine GZ (fun W=>Cl W d.nb 0 (zP d.st)/\Cl W d.nb 4 (zI d.Kh)) ⟨ak,av⟩ fun kh=>?_
 have bz:=Lh (bx.out.AJ (T0 U).drew fun _ _ g=>g.elim);have dy:=Lh (dx.out.Ab (T0 U).drew id);have ez:=Lh (ey.out.Ab (T0 U).drew id);have ei:=Lh (Aj hw.out (T0 U).drew fun _ _ g=>g);have ed:=Lh (hg.out.to (T0 U).drew);clear ak av;generalize U.drew=kg at bz dy ez ei ed kh ⊢;refine hq 0 102 kh ?_;refine hq 1 103 kh ?_;refine hq 2 104 kh ?_;refine hq 3 105 kh ?_;refine hq 4 106 kh ?_;refine hq 5 107 kh ?_;refine hq 6 108 kh ?_;refine hq 7 109 kh ?_;refine hq 8 110 kh ?_;refine hq 9 111 kh ?_;refine Gg 10 fun h e=>?_
 go_simp;refine(gt.out _ bz.out).mono ?_;rintro kj aj ⟨bq,f,rfl,ki⟩;have be:=Lh (bz.out.AJ ki fun _ _ g=>g.elim);have gv:=Lh (dy.out.Ab ki id);have fa:=Lh (ez.out.Ab ki id);have hy:=Lh (Aj ei.out ki fun _ _ g=>g);have hh:=Lh (ed.out.to ki);have G:=Lh (Bf (X.out _ be.out).1 (X.out _ be.out).2.2);clear ki;go_wp2;refine e.out _ _ (G.out) fun kh=>?_
 clear e h;refine hq 11 101 kh ?_;refine hq 12 113 kh ?_;refine hq 13 114 kh ?_;refine hq 14 15 kh ?_;refine hq 15 16 kh ?_;refine zw ?_;clear kh;rcases f with _|_
 all_goals
  go_upto_region 17 with(fail)
  have au:=(X.out _ be.out).2.1;refine GZ (fun W=>Cl W d.nb 2 (zP d.ca)/\AX W kl 330 #[zO,zI op,.slice kn bn I,zI T,zI ah]) ⟨au,fa.out.drew⟩ fun kh=>?_
  have ih:=Lh (be.out.AJ (T0 aj).drew fun _ _ g=>g.elim);have gw:=Lh (gv.out.Ab (T0 aj).drew id);have fb:=Lh (fa.out.Ab (T0 aj).drew id);have ej:=Lh (Aj hy.out (T0 aj).drew fun _ _ g=>g);have bu:=Lh (hh.out.to (T0 aj).drew);clear au;generalize aj.drew=jq at ih gw fb ej bu kh ⊢;refine hq 0 117 kh ?_;refine hq 1 118 kh ?_;refine hq 2 119 kh ?_;refine hq 3 120 kh ?_;refine hq 4 121 kh ?_;refine hq 6 123 kh ?_;refine hq 7 124 kh ?_;refine hq 5 122 (hx:=fun W N=>Ce (.tmp 11) rfl rfl N.2 Tryz.underlying330 rfl K7) kh ?_;have dr:=Lh fun bq=>bs.out jq bp bf (ig.out.AB bu.out) (by have:=cf.out.2;have:=hc.out.2.1;omega) fg bq kn I (by have:=Ay.Ea (V:=Value.string) (fun _=>rfl) (by rw[<- bc.out];exact ej.out);exact this)
  simp only[List.set_set] at dr;refine Gg 8 fun h e=>?_
  go_simp;refine(dr.out _).mono ?_;rintro kj dm ⟨⟨kd,rfl⟩,u2,bg,ft,iv,fl,jg,cn,cr⟩;have ca:Hid (u2<=uses+1/\bg.length<=Y.length+1/\∀ y∈bg,y.1.turn<=(L.length:Int)):=Lh ⟨ft,by have:=cf.out.2;omega,fun y de=>by rcases fl y de with g|g;exact Int.le_of_lt (hk.out y (cf.out.1 y g));rw[g,hi.out];exact Int.le_refl _⟩;have hb:Hid (FE none (cs.set jc (EP d.ca mb room u2 bg)) bp E dm):=Lh (FE.after bu.out ⟨jg,cn,cr⟩);have G:Hid (Cl dm d.nb 2 (zP d.ca)/\AX dm kl 330 #[zO,zI op,.slice kn bn I,zI T,zI ah]):=Lh ⟨by obtain⟨jm,jl,jk,jo,D⟩:=cn.node (FX hr.out jf.symm);exact D.BR.cell 2,fb.out.Ab cr.t fun ao=>ao ⟨hz.out,fun _ g=>by cases g⟩⟩;clear ft iv fl cn cr;go_wp2;refine e.out _ _ (G.out) fun kh=>?_
  clear e h;refine zw ?_;clear kh;go_wp2;go_ret2;exact⟨fg,cj.map (·.c),u2,bg,rfl,ea.out,gu.out,ca.out.1,ca.out.2.1,ca.out.2.2,FE.trans ii.out hb.out⟩
end

abbrev parts (a b c d e f g h i:Eb):List Eb:=[a,b,c,d,e,f,g,h,i]
section
variable {x:Option Nat} {cs:List Eb} {o o1:Nat->Nat} {w W W1 W':Bc} {j:Nat}
theorem Ry {a b c d e f g k i:Eb} (ha:a.tab=false) (m:b.tab=false) (n:c.tab=false) (o:d.tab=false) (p:e.tab=false) (q:f.tab=false) (r:k.tab=false) (s:i.tab=false) :
  ∀ j y,(parts a b c d e f g k i)[j]?= some y->j≠6->y.tab=false
 |0,_,h,_=>by cases h;exact ha
 |1,_,h,_=>by cases h;exact m
 |2,_,h,_=>by cases h;exact n
 |3,_,h,_=>by cases h;exact o
 |4,_,h,_=>by cases h;exact p
 |5,_,h,_=>by cases h;exact q
 |6,_,_,l=>Bv rfl l
 |7,_,h,_=>by cases h;exact r
 |8,_,h,_=>by cases h;exact s
 |_+9,_,h,_=>by cases h
theorem ED.claim (a:ED cs W o) (c:Au W W1) (i:Nat):∃ o1,ED cs W1 o1/\Ew none o o1 W W1/\(∀ k,W.heap.size<=k->k<W1.heap.size->o1 k=i+1)/\∀ k,k<W.heap.size->o1 k=o k:=by
 refine⟨fun k=>if k<W.heap.size then o k else if k<W1.heap.size then i+1 else 0,⟨fun j d g=>?_,fun k b=>?_⟩,⟨c.mono fun _ _ a=>a.elim,fun k b hF=>?_⟩,fun k h f=>?_,fun k b=>?_⟩
 ·refine d.wider ((a.AB c).p j d g) fun k e=>?_
  show(if k<W.heap.size then o k else _)=j+1;rw[AQ (a.lt e)];exact e
 ·have:=c.size;show(if k<W.heap.size then _ else _)=0;rw[Bg (by omega),Bg (by omega)]
 ·show(if k<W.heap.size then _ else _)=0;rw[AQ b];exact hF.1
 ·show(if k<W.heap.size then _ else _)=i+1;rw[Bg (by omega),AQ f]
 ·show(if k<W.heap.size then _ else _)=o k;rw[AQ b]
theorem TT {d p num half:Nat} (h:ED cs w o) (v:cs[j]?= some (FZ d p num half)) (D:half<=1) (y:num+1<256) (s:BB) (z:s.size<=32) (hs1:1<=s.size) :
  Calls Tryz.prog 48 #[zP p,.string s] w (Rt zO fun w'=>Am (fun k=>o k=j+1) w w'/\∃ a,ED (cs.set j (FZ d p (num+1) (1-half))) w' a/\Ew x o a w w'/\∀ k,k<w.heap.size->a k=o k):=by
 obtain⟨A,C,B,E,F,r,n,l,c,e,f,g⟩:=h.p j _ v;refine(Mw (half':=1-half) (x:=1+(1-half)*32) (m:=num+1) r n (by omega) rfl rfl y s z hs1).mono ?_;rintro b w' ⟨rfl,t,q,u⟩;have i:Am (fun k=>o k=j+1) w w':=u.mono fun k _ b=>by
  rcases b with(rfl|rfl|rfl)|rfl
  ·exact c
  ·exact e
  ·exact f
  ·exact g
 exact⟨rfl,i,h.pR j _ i ⟨A,C,B,_,s,t,q,.inl l,.inl c,.inl e,.inl f,.inl g⟩⟩
end

end Go.Proofs.YtcjcndnjpedniaaGreat
