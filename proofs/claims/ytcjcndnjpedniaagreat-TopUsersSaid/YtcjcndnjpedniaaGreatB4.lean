/- A part of the proof of TopUsers. -/
import Derived.Deep.DeepCutAuto
import Derived.Test.YtcjcndnjpedniaaGreatB3
namespace Go.Proofs.YtcjcndnjpedniaaGreat
set_option linter.all false
set_option maxRecDepth 100000
set_option maxHeartbeats 8000000
open Go.RowKit
section
open Go.Maps (Keyed)
def Wl (a b:Qu):Bool:=decide (a.obj=b.obj/\a.op=b.op/\a.who=b.who)
theorem KH {a b:Qu}:Wl a b=true↔a=b:=by
 obtain⟨c,d,e⟩:=a;obtain⟨f,g,h⟩:=b;simp[Wl]
def Fe (q:Qu) (Y:List (Iu × Int)):List (Iu × Int):=Y.filter fun a=>!Wl a.1.q q
def LJ (room:Int) (Y:List (Iu × Int)):List (Iu × Int):=if room<=(Y.length:Int) then Y.tail else Y
def dA (room uses:Int) (Y:List (Iu × Int)) (x:Iu):List (Iu × Int):=LJ room (Fe x.q Y)++[(x,uses+1)]
def Yp (b:List BB) (a:Int):Int:=if D9 b then(if a=0∨a=1∨a=2 then 0 else 1) else 2
theorem I9 {q:Qu} {Y:List (Iu × Int)} {y:Iu × Int}:y∈Fe q Y↔y∈Y/\y.1.q≠q:=by
 unfold Fe;rw[List.mem_filter,Gu,Fh,Ne,KH]
theorem P5 {q:Qu} {Y:List (Iu × Int)} (a:∀ y∈Y,y.1.q≠q):Fe q Y=Y:=by
 unfold Fe;rw[List.filter_eq_self];intro y b;rw[Gu,Fh,Ne,KH];exact a y b
theorem M3 {q:Qu} {y:Iu × Int}:∀ {Y:List (Iu × Int)},Y.Pairwise (fun f b=>f.1.q≠b.1.q)->y∈Y->y.1.q=q->Y.Perm (y::Fe q Y)
 |[],_,a,_=>by cases a
 |z::Y,h,a,hq=>by
  obtain⟨e,g⟩:=Gm.1 h;rcases BI.1 a with rfl|a
  ·have d:Fe q (y::Y)=Y:=by
    have:Fe q (y::Y)=Fe q Y:=by
     unfold Fe;rw[List.filter_cons,KH.2 hq];rfl
    rw[this];exact P5 fun z i c=>e z i (hq.trans c.symm)
   rw[d]
  ·have j:Wl z.1.q q=false:=by
    rw[Fh,Ne,KH];exact fun c=>e y a (c.trans hq.symm)
   have d:Fe q (z::Y)=z::Fe q Y:=by
    unfold Fe;rw[List.filter_cons,j];rfl
   rw[d];exact((M3 g a hq).cons z).trans (List.Perm.swap y z _)
section
variable {w w':Bc} {p mb:Nat} {room uses:Int} {Y:List (Iu × Int)} {q:Qu} {l l':List (Value × Value)}
def pE (q:Qu):Prop:=D9 q.who=true/\jE q
theorem VY (b:Da w p mb room uses Y) (e:l.Perm (Y.map Il)) (hq:pE q) (d:∀ y∈Y,y.1.q≠q):∀ x∈l,x.1≠Sk q:=fun x hx c=>by
 obtain⟨y,a,rfl⟩:=Bp.1 (e.mem_iff.1 hx);exact d y a (Sl (b.all y a).2.1 hq.1 c)
theorem Da.drop (c:Da w p mb room uses Y) (e:l.Perm (Y.map Il)) (n:Cw w' Tryz.prog 370 mb l') (k:Am (fun i=>i=mb) w w') (hq:pE q) (d:(∃ v,l.Perm ((Sk q,v)::l'))∨l'=l/\∀ x∈l,x.1≠Sk q) :
  Da w' p mb room uses (Fe q Y):=by
 have j:∀ a∈Fe q Y,a∈Y:=fun a b=>(I9.1 b).1
 refine⟨c.BR.Ab k fun f=>c.ne f,⟨l',n,?_⟩,c.rise.sublist (List.filter_sublist ..),fun a b=>c.all a (j a b),c.nn,fun a b=>c.pos a (j a b)⟩;rcases d with⟨v,d⟩|⟨rfl,d⟩
 ·have m:(Sk q,v)∈Y.map Il:=e.mem_iff.1 (d.mem_iff.2 (by simp));obtain⟨a,b,h⟩:=Bp.1 m;have o:a.1.q=q:=Sl (c.all a b).2.1 hq.1 (by injection h);have g:=(M3 c.keys b o).map Il;rw[Dm,h] at g;exact(d.symm.trans (e.trans g)).cons_inv
 ·rw[P5 fun a b f=>d (Il a) (e.mem_iff.2 (Di b)) (by unfold Il;rw[f])];exact e
theorem dB {x:Iu} (b:Da w p mb room (uses+1) Y) (g:l.Perm (Y.map Il)) (f:Cw w' Tryz.prog 370 mb (l++[(Sk x.q,Pn x (uses+1))])) (d:Am (fun i=>i=mb) w w') (hq:pE x.q) (e:∀ y∈Y,y.2<=uses) :
  Da w' p mb room (uses+1) (Y++[(x,uses+1)]):=by
 refine⟨b.BR.Ab d fun c=>b.ne c,⟨_,f,?_⟩,?_,?_,b.nn,?_⟩
 ·rw[Bw];exact g.append_right _
 ·rw[List.pairwise_append];refine⟨b.rise,by simp,fun y a j h=>?_⟩;rw[Ai.1 h];have:=e y a;show y.2<uses+1;omega
 ·intro y a;rcases Bd.1 a with a|a
  ·exact b.all y a
  ·rw[Ai.1 a];exact⟨Int.le_refl _,hq⟩
 ·intro y a;rcases Bd.1 a with a|a
  ·exact b.pos y a
  ·rw[Ai.1 a];exact b.nn
theorem KO {P:Program} {a:Bc} {c:Oper} {d:Act} {t k e:TypeId} {b:Nat} (m:Operand) (h:c.op=Op.call {callee:=Callee.builtin Builtin.len,args:=#[m],argTypes:=#[t]}) (g:d.eval m= .map (some b)) (f:Cw a P k b l) (ht:P.underlying t=some (.map k e)) :
  (execOp d.eval c).run P a= .ok (.value (zI (l.length:Int))) a:=by
 have i:=f.len c.type ht;unfold execOp;simp only[h,resolve,invoke,builtin,Sem.run_bind,Sem.run_pure,Result.andThen_ok,List.map_toArray,Dm,FR,g,i]
end
def fU (w:Bc) (p mb:Nat) (room uses:Int) (Y:List (Iu × Int)) (x:Iu) (e:Ending) (w':Bc):Prop :=
 e= .returned (zI (Yp x.q.who x.told))/\(if Yp x.q.who x.told=0 then Da w' p mb room (uses+1) (dA room uses Y x) else Da w' p mb room uses Y)/\Am (Pe p mb) w w'
theorem jC {w:Bc} {p mb:Nat} {room uses:Int} {Y:List (Iu × Int)} (b:Da w p mb room uses Y) (dn:1<=room) (bc:uses<=9223372036854775807∨(Y.length:Int)<room) (dj:Y.length<=1000000) (ob op ver j dt Q:Int) (A:Option Addr) (c:Nat) (f:List BB)
  (db:f.length<=1000) (bb:∀ s∈f,s.size<=1000000) (cq:Ay Value.string w w.heap.size 1 A f) (dc:i64 ob) (dd:i64 op) :
  Calls Tryz.prog 222 #[zP p,.agg #[zI ob,zI op,.slice A f.length c,zI ver,zI j],zI dt,zI Q] w (fU w p mb room uses Y ⟨⟨ob,op,f⟩,dt,ver,j,Q⟩):=by
 have H:=Lh b;obtain⟨dm,dl⟩:=b.lt;have bl:Hid (AX (w.alloc (.cells #[zI ob,zI op,.slice A f.length c,zI ver,zI j] 330)) w.heap.size 330 #[zI ob,zI op,.slice A f.length c,zI ver,zI j]):=Lh (AX.new w _ _);have bn:Au w (w.alloc (.cells #[zI ob,zI op,.slice A f.length c,zI ver,zI j] 330)):=(Aa _ w).alloc _;have ca:=Lh (QJ ob op ver j A c f (w.alloc (.cells #[zI ob,zI op,.slice A f.length c,zI ver,zI j] 330)) db bb (cq.AB bn));have cc:=Lh bn;have da:(w.alloc (.cells #[zI ob,zI op,.slice A f.length c,zI ver,zI j] 330)).cell? (zA w.heap.size 0)=some (zI ob):=bl.out.cell 0;have C:Hid (Yp f dt=if D9 f then(if dt=0∨dt=1∨dt=2 then 0 else 1) else 2):=Lh rfl;have ce:Hid ((w.alloc (.cells #[zI ob,zI op,.slice A f.length c,zI ver,zI j] 330)).heap.size=w.heap.size+1):=Lh (by simp);have R:Hid (Q8 ob op f=if D9 f then⟨ob,op,f⟩ else Uj):=Lh rfl;clear b bn cq da;go_in;go_wp2_with fail;refine ca.out.mono ?_;rintro e i ⟨rfl,al⟩;have bo:=cc.out.to al;have ap:=bl.out.Ab al id;have hs1:w.heap.size+1<=i.heap.size:=by have:=al.size;have:=ce.out;omega
 clear ca cc bl ce al;rcases X:D9 f with _|_
 ·rw[X] at C R;have t:Hid (Yp f dt=2):=C.out;have U:Hid (AX (i.alloc (.cells #[zO,zO,zE,zE,zE,zE,zE,zE,zE,zE,zE,zE,zE,zE,zE,zE,zE,zE] 370)) i.heap.size 370 (Mg Uj)):=Lh (AX.new i _ _);generalize Q8 ob op f=q;clear C R X ap bb;go_wp2_with (refine Bo rfl (.tmp 9) (.tmp 14) rfl rfl rfl U.out (by rw[Cy];exact ES) (by rw[Cy,Cy]) (Ie _) ?_;intro r I L bx);have bp:Am (fun k=>i.heap.size<=k) i r:=((Aa _ i).alloc _).AJ L fun h l b=>by omega
  have E:Au w r:=bo.AJ bp fun h l b=>by omega
  go_ret;exact⟨by rw[t.out];rfl,by rw[t.out,Bg (by decide)];exact H.out.AB E,E.mono fun h l b=>b.elim⟩
 ·rw[X] at C R;have co:Q8 ob op f=⟨ob,op,f⟩:=R.out;rw[co];obtain⟨q,ba⟩:∃ q:Qu,q=⟨ob,op,f⟩:=⟨_,rfl⟩
  have F:pE q:=by
   rw[ba];exact⟨X,dc,dd,fun s hx=>by have:=bb s hx;unfold maxLen;omega⟩
  rw[<- ba];have cd:=Lh ba;have U:Hid (AX (i.alloc (.cells #[zO,zO,zE,zE,zE,zE,zE,zE,zE,zE,zE,zE,zE,zE,zE,zE,zE,zE] 370)) i.heap.size 370 (Mg Uj)):=Lh (AX.new i _ _);clear R X co ba bb;by_cases ha:dt=0∨dt=1∨dt=2
  ·have t:Hid (Yp f dt=0):=by have b:=C.out;rw[AQ rfl,AQ ha] at b;exact b
   have cz:((dt != 0)=false)∨((dt != 0)=true/\(dt != 1)=false)∨((dt != 0)=true/\(dt != 1)=true/\(dt != 2)=false):=by
    rcases ha with rfl|rfl|rfl
    ·exact .inl rfl
    ·exact .inr (.inl ⟨rfl,rfl⟩)
    ·exact .inr (.inr ⟨rfl,rfl,rfl⟩)
   clear C ha;have ct:=Lh ap;clear ap;rcases cz with bg|⟨bg,cf⟩|⟨bg,cf,cw⟩
   all_goals
    go_wp2_with (refine Bo rfl (.tmp 9) (.tmp 14) rfl rfl rfl U.out (by rw[Cy];exact ES) (by rw[Cy,Cy]) (Ie _) ?_;intro r I L bx);have ci:Am (fun k=>i.heap.size<=k) i r:=((Aa _ i).alloc _).AJ L fun h l b=>by omega
    have E:Au w r:=bo.AJ ci fun h l b=>by omega
    have ar:=H.out.AB E;have ch:=ct.out.Ab ci (by omega);have dp:i.heap.size<r.heap.size:=I.lt;obtain⟨cu,cv,bf⟩:=ar.cells;obtain⟨dq,cl,cn⟩:=ar.map;obtain⟨ai,dr,cr,cm,ck,G,dg⟩:=(cl.drew).del L6 Tryz.underlying240 (PL F.2) 0;have K:Da ai p mb room uses (Fe q Y):=(ar.AB ((Aa _ r).drew)).drop cn cm G F ck;have de:p<r.heap.size:=by omega
    have df:p≠mb:=H.out.ne;have ac:i.heap.size≠mb:=by omega
    have cp:i.heap.size≠p:=by omega
    have ax:w.heap.size≠p:=by omega
    have N:w.heap.size≠mb:=by omega
    clear L bx U ck cl cn cu cv;refine GZ (fun d=>Cl d p 2 (.map (some mb))/\AX d i.heap.size 370 (Mg q)) ⟨bf,I⟩ fun a=>?_
    refine hq 0 28 a ?_;refine hq 1 29 a ?_;refine hq 2 30 a ?_;refine hq 3 31 a ?_;refine hq 4 32 (hx:=fun d B=>Ce (.tmp 9) rfl rfl B.2 Tryz.underlying370 rfl (by rw[Cy];exact ES)) a ?_;refine Gg 5 fun y du=>?_
    rw[AQ (by rfl)];refine Kr (.tmp 31) (.tmp 32) 240 370 rfl rfl rfl cr ?_;rw[CZ (by rfl)];refine du.out _ _ ⟨(G.cell (p:=zA p 2) de df).trans bf,AX.Ab (AX.drew I) G ac⟩ fun a=>?_
    clear du y;refine zw ?_;have az:=AX.Ab (AX.drew I) G ac;have aq:=AX.Ab (AX.drew ch) G N;have cj:Am (Pe p mb) w ai:=((E.mono (S':=Pe p mb) fun h l b=>b.elim).drew).AJ G fun h l b=>.inr b
    obtain⟨an,cg,ao⟩:=K.cells;obtain⟨P,ay,bv⟩:=K.map;have T:=Lh (gX bv);have Z:∀ m∈Fe q Y,m.1.q≠q:=fun m J=>(I9.1 J).2
    have dk:P.length<=1000000:=by
     have cx:=T.out;have cy:(Fe q Y).length<=Y.length:=EU _ _;omega
    clear cm cr ar I ch G bf dg;by_cases M:room<=(P.length:Int)
    ·have bh:decide (room<=(P.length:Int))=true:=by simpa using M
     have bd:Hid (LJ room (Fe q Y)=(Fe q Y).tail):=by
      show LJ room (Fe q Y)=(Fe q Y).tail;unfold LJ;rw[AQ (by rw[<- T.out];exact M)]
     have S:=Lh K;clear K bv;go_wp2;refine GZ (fun d=>Cl d p 2 (.map (some mb))/\Cl d p 0 (zI room)/\Cw d Tryz.prog 370 mb P) ⟨ao,an,ay⟩ fun a=>?_
     refine hq 0 33 a ?_;refine hq 1 34 a ?_;refine hq 2 35 a ?_;refine hq 3 36 a ?_;refine hq 4 37 (hx:=fun d B=>KO (.tmp 36) rfl rfl B.2.2 Tryz.underlying240) a ?_;refine hq 5 38 a ?_;refine hq 6 39 a ?_;refine hq 7 40 a ?_;refine hq 8 41 a ?_;refine hq 9 42 a ?_;refine zw ?_;have dh:uses<=9223372036854775807:=by
      rcases bc with bc|bc
      ·exact bc
      ·exfalso;have cx:=T.out;have cy:(Fe q Y).length<=Y.length:=EU _ _;omega
     rcases aw:Fe q Y with _|⟨ds,am⟩
     ·exfalso;have:=T.out;rw[aw,CV] at this;omega
     ·have bm:=S.out;rw[aw] at bm bd Z;have be:Hid (LJ room (Fe q Y)=am):=by
       show LJ room (Fe q Y)=am;rw[aw,bd.out];rfl
      have cb:=Lh (cK (bm.AB ((Aa _ ai).drew)) dh);clear bd bm S ay M bh aw;go_wp2_with fail;refine cb.out.mono ?_;rintro e v ⟨rfl,D,av⟩;have O:=AX.Ab (AX.drew az) av ac;have u:=AX.Ab (AX.drew aq) av N;have ag:Cl v w.heap.size 3 (zI ver):=u.cell 3;have ah:Cl v w.heap.size 4 (zI j):=u.cell 4;have bj:=D.cells.2.2;have dv:w.heap.size<v.heap.size:=u.lt;have bu:∀ m∈am,m.1.q≠q:=fun m J=>Z m (by simp[J])
      have bq:∀ m∈am,m.2<=uses:=fun m J=>(D.all m J).1
      have au:Am (Pe p mb) w v:=(cj.drew).AJ av fun h l b=>.inr b
      clear cb az aq u av Z an cg ao;go_wp2;refine GZ (fun d=>Cl d p 2 (.map (some mb))/\AX d i.heap.size 370 (Mg q)/\Cl d w.heap.size 3 (zI ver)/\Cl d w.heap.size 4 (zI j)) ⟨bj,O,ag,ah⟩ fun a=>?_
      refine hq 0 45 a ?_;refine hq 1 46 a ?_;refine hq 2 47 a ?_;refine hq 3 48 a ?_;refine hq 4 49 (hx:=fun d B=>Ce (.tmp 9) rfl rfl B.2.1 Tryz.underlying370 rfl (by rw[Cy];exact ES)) a ?_;refine hq 5 50 a ?_;refine hq 6 51 a ?_;refine hq 7 52 a ?_;refine hq 8 53 a ?_;refine hq 9 54 a ?_;refine hq 10 55 a ?_;refine hq 11 56 a ?_;refine Gg 12 fun y du=>?_
      go_simp;go_at_call 255;refine(SB (D.AB ((Aa _ v).drew))).mono ?_;rintro e aj ⟨rfl,z,n⟩;go_wp2_with fail;have bk:=z.cells.2.2;have ab:=AX.Ab (AX.drew O) n cp;have ad:=(n.cell (p:=zA w.heap.size 3) dv ax).trans ag;have ae:=(n.cell (p:=zA w.heap.size 4) dv ax).trans ah;refine du.out _ _ ⟨bk,ab,ad,ae⟩ fun a=>?_
      clear du y;refine hq 13 58 a ?_;have W:=Bj dv n.size;obtain⟨di,br,aa⟩:=z.map;have bt:=VY z aa F bu;obtain⟨bz,bw,bs⟩:=br.Nv L6 Tryz.underlying240 (PL F.2) bt (Pn ⟨q,dt,ver,j,Q⟩ (uses+1));have o:Am (fun h=>h=mb) aj _:=(Aa (fun h=>h=mb) aj).setBlock (g:=mb) (fun _=>rfl) bz;have V:=dB (x:=⟨q,dt,ver,j,Q⟩) z aa bs o F bq;refine Gg 14 fun y du=>?_
      rw[AQ (by rfl)];refine Jh (.tmp 48) (.tmp 49) (.tmp 58) 240 rfl rfl rfl rfl bw ?_;rw[CZ (by rfl)];refine du.out _ _ ⟨V.cells.2.2,ab.Ab o ac,(o.cell (p:=zA w.heap.size 3) W N).trans ad,(o.cell (p:=zA w.heap.size 4) W N).trans ae⟩ fun a=>?_
      clear du y;refine zw ?_;go_wp2;go_ret;refine⟨by rw[t.out];rfl,?_,?_⟩
      ·rw[t.out,AQ rfl];unfold dA;rw[<- cd.out,be.out];exact V
      ·exact(((au.drew).AJ n fun h l b=>.inl b).AJ o fun h l b=>.inr b)
    ·have bh:decide (room<=(P.length:Int))=false:=by simpa using M
     have be:Hid (LJ room (Fe q Y)=Fe q Y):=by
      show LJ room (Fe q Y)=Fe q Y;unfold LJ;rw[Bg (by rw[<- T.out];exact M)]
     have S:=Lh K;clear K bv;go_wp2;refine GZ (fun d=>Cl d p 2 (.map (some mb))/\Cl d p 0 (zI room)/\Cw d Tryz.prog 370 mb P) ⟨ao,an,ay⟩ fun a=>?_
     refine hq 0 33 a ?_;refine hq 1 34 a ?_;refine hq 2 35 a ?_;refine hq 3 36 a ?_;refine hq 4 37 (hx:=fun d B=>KO (.tmp 36) rfl rfl B.2.2 Tryz.underlying240) a ?_;refine hq 5 38 a ?_;refine hq 6 39 a ?_;refine hq 7 40 a ?_;refine hq 8 41 a ?_;refine hq 9 42 a ?_;refine zw ?_;obtain⟨v,cs⟩:∃ d,d=ai.drew:=⟨_,rfl⟩
     have O:=AX.drew az;have u:=AX.drew aq;have D:=S.out.AB ((Aa _ ai).drew);have au:=cj.drew;rw[<- cs] at O u D au ⊢;have ag:Cl v w.heap.size 3 (zI ver):=u.cell 3;have ah:Cl v w.heap.size 4 (zI j):=u.cell 4;have bj:=D.cells.2.2;have dv:w.heap.size<v.heap.size:=u.lt;have bu:=Z;have bq:∀ m∈Fe q Y,m.2<=uses:=fun m J=>(D.all m J).1
     clear S az aq u Z an cg ao cs ay M bh;go_wp2;refine GZ (fun d=>Cl d p 2 (.map (some mb))/\AX d i.heap.size 370 (Mg q)/\Cl d w.heap.size 3 (zI ver)/\Cl d w.heap.size 4 (zI j)) ⟨bj,O,ag,ah⟩ fun a=>?_
     refine hq 0 45 a ?_;refine hq 1 46 a ?_;refine hq 2 47 a ?_;refine hq 3 48 a ?_;refine hq 4 49 (hx:=fun d B=>Ce (.tmp 9) rfl rfl B.2.1 Tryz.underlying370 rfl (by rw[Cy];exact ES)) a ?_;refine hq 5 50 a ?_;refine hq 6 51 a ?_;refine hq 7 52 a ?_;refine hq 8 53 a ?_;refine hq 9 54 a ?_;refine hq 10 55 a ?_;refine hq 11 56 a ?_;refine Gg 12 fun y du=>?_
     go_simp;go_at_call 255;refine(SB (D.AB ((Aa _ v).drew))).mono ?_;rintro e aj ⟨rfl,z,n⟩;go_wp2_with fail;have bk:=z.cells.2.2;have ab:=AX.Ab (AX.drew O) n cp;have ad:=(n.cell (p:=zA w.heap.size 3) dv ax).trans ag;have ae:=(n.cell (p:=zA w.heap.size 4) dv ax).trans ah;refine du.out _ _ ⟨bk,ab,ad,ae⟩ fun a=>?_
     clear du y;refine hq 13 58 a ?_;have W:=Bj dv n.size;obtain⟨di,br,aa⟩:=z.map;have bt:=VY z aa F bu;obtain⟨bz,bw,bs⟩:=br.Nv L6 Tryz.underlying240 (PL F.2) bt (Pn ⟨q,dt,ver,j,Q⟩ (uses+1));have o:Am (fun h=>h=mb) aj _:=(Aa (fun h=>h=mb) aj).setBlock (g:=mb) (fun _=>rfl) bz;have V:=dB (x:=⟨q,dt,ver,j,Q⟩) z aa bs o F bq;refine Gg 14 fun y du=>?_
     rw[AQ (by rfl)];refine Jh (.tmp 48) (.tmp 49) (.tmp 58) 240 rfl rfl rfl rfl bw ?_;rw[CZ (by rfl)];refine du.out _ _ ⟨V.cells.2.2,ab.Ab o ac,(o.cell (p:=zA w.heap.size 3) W N).trans ad,(o.cell (p:=zA w.heap.size 4) W N).trans ae⟩ fun a=>?_
     clear du y;refine zw ?_;go_wp2;go_ret;refine⟨by rw[t.out];rfl,?_,?_⟩
     ·rw[t.out,AQ rfl];unfold dA;rw[<- cd.out,be.out];exact V
     ·exact(((au.drew).AJ n fun h l b=>.inl b).AJ o fun h l b=>.inr b)
  ·have t:Hid (Yp f dt=1):=by have b:=C.out;rw[AQ rfl,Bg ha] at b;exact b
   have bg:(dt != 0)=true:=by rw[bne_iff_ne];omega
   have cf:(dt != 1)=true:=by rw[bne_iff_ne];omega
   have cw:(dt != 2)=true:=by rw[bne_iff_ne];omega
   clear C ha ap;go_wp2_with (refine Bo rfl (.tmp 9) (.tmp 14) rfl rfl rfl U.out (by rw[Cy];exact ES) (by rw[Cy,Cy]) (Ie _) ?_;intro r I L bx);have bp:Am (fun k=>i.heap.size<=k) i r:=((Aa _ i).alloc _).AJ L fun h l b=>by omega
   have E:Au w r:=bo.AJ bp fun h l b=>by omega
   go_ret;exact⟨by rw[t.out];rfl,by rw[t.out,Bg (by decide)];exact H.out.AB E,E.mono fun h l b=>b.elim⟩
end
section
open Go.Maps (Keyed)
def P8 (q:Qu) (Y:List (Iu × Int)):Option (Iu × Int):=Y.find? fun a=>Wl a.1.q q
theorem M4 {q:Qu} {Y:List (Iu × Int)} {y:Iu × Int} (a:P8 q Y=some y):y∈Y/\y.1.q=q :=
 ⟨List.mem_of_find?_eq_some a,KH.1 (List.find?_some (p:=fun y:Iu × Int=>Wl y.1.q q) a)⟩
theorem VF {q:Qu} {Y:List (Iu × Int)} (b:P8 q Y=none):∀ y∈Y,y.1.q≠q:=fun y c a=>by
 have:=List.find?_eq_none.1 b y c;exact this (KH.2 a)
def fresh (x:Iu) (ver a t:Int):Bool:=decide (x.Hq=ver/\x.turn=a/\t<x.till)
def OH (q:Qu) (ver b t:Int) (Y:List (Iu × Int)):Option Iu :=
 if D9 q.who then match P8 q Y with
  |some a=>if fresh a.1 ver b t then some a.1 else none
  |none=>none
 else none
def PG (q:Qu) (ver b t:Int) (uses:Int) (Y:List (Iu × Int)):List (Iu × Int) :=
 if D9 q.who then match P8 q Y with
  |some a=>if fresh a.1 ver b t then Fe q Y++[(a.1,uses+1)] else Fe q Y
  |none=>Y
 else Y
def VH (q:Qu) (ver a t:Int) (uses:Int) (Y:List (Iu × Int)):Int:=if(OH q ver a t Y).isSome then uses+1 else uses
def pM:Option Iu->Int
 |some x=>x.told
 |none=>0
def fM (w:Bc) (p mb:Nat) (room uses:Int) (Y:List (Iu × Int)) (q:Qu) (ver a t:Int) (e:Ending) (w':Bc):Prop :=
 e= .returned (.tuple #[zI (pM (OH q ver a t Y)),.bool (OH q ver a t Y).isSome])/\Da w' p mb room (VH q ver a t uses Y) (PG q ver a t uses Y)/\Am (Pe p mb) w w'
theorem fF:∀ w:Bc,(zeroValue 374).run Tryz.prog w= .ok (.agg #[zO,zO,zO,zO,zO]) w:=fun w=>by kernel_rfl
theorem Jo {P:Program} {a:Bc} {d:Oper} {b:Act} {t:TypeId} {c:Bool} {e f v:Value} (m x:Operand) (i:d.op=Op.lookup t m x c) (h:b.eval m=e) (hx:b.eval x=f) (g:(Instr.lookup t e f c).run P a= .ok v a) :
  (execOp b.eval d).run P a= .ok (.value v) a:=by
 unfold execOp;simp only[i,h,hx,Sem.run_bind,g,Result.andThen_ok,Sem.run_pure]
section
variable {w w':Bc} {p mb:Nat} {room uses:Int} {Y:List (Iu × Int)} {q:Qu} {l l' l0:List (Value × Value)}
theorem iX {y:Iu × Int} (b:Da w p mb room (uses+1) Y) (n:l.Perm (Y.map Il)) (c:y∈Y) (m:Cw w' Tryz.prog 370 mb l') (e:l.Perm ((Sk y.1.q,Pn y.1 y.2)::l0)) (f:l'.Perm ((Sk y.1.q,Pn y.1 (uses+1))::l0)) (h:Am (fun i=>i=mb) w w') (k:∀ z∈Y,z.2<=uses) :
  Da w' p mb room (uses+1) (Fe y.1.q Y++[(y.1,uses+1)]):=by
 have j:=M3 b.keys c rfl;have g:l0.Perm ((Fe y.1.q Y).map Il):=by
  have:=j.map Il;rw[Dm] at this;exact(e.symm.trans (n.trans this)).cons_inv
 refine⟨b.BR.Ab h fun d=>b.ne d,⟨l',m,?_⟩,?_,?_,b.nn,?_⟩
 ·rw[Bw];exact f.trans ((g.cons _).trans (List.perm_append_singleton _ _).symm)
 ·rw[List.pairwise_append];refine⟨b.rise.sublist (List.filter_sublist ..),by simp,fun z a q o=>?_⟩;rw[Ai.1 o];have:=k z (I9.1 a).1;show z.2<uses+1;omega
 ·intro z a;rcases Bd.1 a with a|a
  ·exact b.all z (I9.1 a).1
  ·rw[Ai.1 a];exact⟨Int.le_refl _,(b.all y c).2⟩
 ·intro z a;rcases Bd.1 a with a|a
  ·exact b.pos z (I9.1 a).1
  ·rw[Ai.1 a];exact b.nn
end
theorem iB {w:Bc} {p mb:Nat} {room uses:Int} {Y:List (Iu × Int)} (a:Da w p mb room uses Y) (ob op ver ep t:Int) (A:Option Addr) (c:Nat) (h:List BB)
  (dk:h.length<=1000) (an:∀ s∈h,s.size<=1000000) (cs:Ay Value.string w w.heap.size 1 A h) (dl:i64 ob) (dm:i64 op) :
  Calls Tryz.prog 218 #[zP p,.agg #[zI ob,zI op,.slice A h.length c,zI ver,zI ep],zI t] w (fM w p mb room uses Y ⟨ob,op,h⟩ ver ep t):=by
 have H:=Lh a;obtain⟨ef,ee⟩:=a.lt;have bv:Hid (AX (w.alloc (.cells #[zI ob,zI op,.slice A h.length c,zI ver,zI ep] 330)) w.heap.size 330 #[zI ob,zI op,.slice A h.length c,zI ver,zI ep]):=Lh (AX.new w _ _);have ba:Au w (w.alloc (.cells #[zI ob,zI op,.slice A h.length c,zI ver,zI ep] 330)):=(Aa _ w).alloc _;have bk:=Lh (QJ ob op ver ep A c h (w.alloc (.cells #[zI ob,zI op,.slice A h.length c,zI ver,zI ep] 330)) dk an (cs.AB ba));have bo:=Lh ba;have bq:Hid ((w.alloc (.cells #[zI ob,zI op,.slice A h.length c,zI ver,zI ep] 330)).heap.size=w.heap.size+1):=Lh (by simp);have U:Hid (Q8 ob op h=if D9 h then⟨ob,op,h⟩ else Uj):=Lh rfl;obtain⟨q,am⟩:∃ q:Qu,q=⟨ob,op,h⟩:=⟨_,rfl⟩
 have au:Hid (q.who=h):=by show q.who=h;rw[am]
 rw[<- am];have bp:=Lh am;clear a ba cs am;go_in;go_wp2_with fail;refine bk.out.mono ?_;rintro e m ⟨rfl,af⟩;have bx:=bo.out.to af;have ax:=bv.out.Ab af id;have hs1:w.heap.size+1<=m.heap.size:=by have:=af.size;have:=bq.out;omega
 have ay:Hid (AX (m.alloc (.cells #[zO,zO,zE,zE,zE,zE,zE,zE,zE,zE,zE,zE,zE,zE,zE,zE,zE,zE] 370)) m.heap.size 370 (Mg Uj)):=Lh (AX.new m _ _);clear bk bo bv bq af;rcases I:D9 h with _|_
 ·rw[I] at U;have aq:Hid (OH q ver ep t Y=none/\PG q ver ep t uses Y=Y):=by
   unfold OH PG;rw[au.out,I];exact⟨rfl,rfl⟩
  generalize Q8 ob op h=en;clear U I ax an;go_wp2_with (refine Bo rfl (.tmp 8) (.tmp 14) rfl rfl rfl ay.out (by rw[Cy];exact ES) (by rw[Cy,Cy]) (Ie _) ?_;intro d es aj ct);have di:Am (fun v=>m.heap.size<=v) m d:=((Aa _ m).alloc _).AJ aj fun k n a=>by omega
  have F:Au w d:=bx.AJ di fun k n a=>by omega
  go_ret2;refine⟨by rw[aq.out.1];rfl,?_,F.mono fun k n a=>a.elim⟩;unfold VH;rw[aq.out.1,aq.out.2];exact H.out.AB F
 ·rw[I] at U;have cl:Q8 ob op h=q:=by rw[bp.out];exact U.out
  rw[cl];have aa:pE q:=by
   rw[bp.out];exact⟨I,dl,dm,fun s hx=>by have:=an s hx;unfold maxLen;omega⟩
  have C:Hid (OH q ver ep t Y=match P8 q Y with|some L=>if fresh L.1 ver ep t then some L.1 else none|none=>none):=by
   show OH q ver ep t Y=_;unfold OH;rw[au.out,I,AQ rfl]
  have D:Hid (PG q ver ep t uses Y=match P8 q Y with|some L=>if fresh L.1 ver ep t then Fe q Y++[(L.1,uses+1)] else Fe q Y|none=>Y):=by
   show PG q ver ep t uses Y=_;unfold PG;rw[au.out,I,AQ rfl]
  clear U I cl an;go_wp2_with (refine Bo rfl (.tmp 8) (.tmp 14) rfl rfl rfl ay.out (by rw[Cy];exact ES) (by rw[Cy,Cy]) (Ie _) ?_;intro d es aj ct);have cb:Am (fun v=>m.heap.size<=v) m d:=((Aa _ m).alloc _).AJ aj fun k n a=>by omega
  have F:Au w d:=bx.AJ cb fun k n a=>by omega
  have W:=H.out.AB F;have bw:=ax.Ab cb (by omega);have ei:m.heap.size<d.heap.size:=es.lt;obtain⟨dc,dd,M⟩:=W.cells;obtain⟨ab,Q,be⟩:=W.map;have ak:p<d.heap.size:=by omega
  have bh:∀ o,p<(d.drew.alloc o).heap.size:=fun o=>by simp;show p<d.heap.size+1;omega
  have cj:p≠mb:=H.out.ne;have cq:m.heap.size≠mb:=by omega
  have ck:p≠d.heap.size:=by omega
  have cr:m.heap.size≠d.heap.size:=by omega
  have bd:mb≠d.heap.size:=by omega
  clear aj ct ay dc dd ax;rcases S:P8 q Y with _|L
  ·rw[S] at C D;have da:=Lh (VY W be aa (VF S));have ad:=Lh aa;clear S aa;go_wp2;refine GZ (fun g=>Cl g p 2 (.map (some mb))/\AX g m.heap.size 370 (Mg q)/\Cw g Tryz.prog 370 mb ab) ⟨M,es,Q⟩ fun b=>?_
   refine hq 0 19 b ?_;refine hq 1 20 b ?_;refine hq 2 21 b ?_;refine hq 3 22 b ?_;refine hq 4 23 (hx:=fun g r=>Ce (.tmp 8) rfl rfl r.2.1 Tryz.underlying370 rfl (by rw[Cy];exact ES)) b ?_;refine hq 5 24 (hx:=fun g r=>Jo (.tmp 22) (.tmp 23) rfl rfl rfl (r.2.2.OQ L6 Tryz.underlying240 (fF g) (PL ad.out.2) da.out true)) b ?_;refine hq 6 18 b ?_;refine hq 7 25 b ?_;refine hq 8 26 b ?_;refine Gg 9 fun u j=>?_
   go_simp;refine j.out _ _ ⟨(World.cell?_alloc_lt _ _ _ ak).trans M,es.alloc _,Cw.alloc (Cw.drew Q) _⟩ fun b=>?_
   clear j u;refine Gg 10 fun u j=>?_
   rw[AQ (by rfl)];refine Ck (.tmp 10) (.tmp 25) rfl rfl (cs':=#[zO,zO,zO,zO,zO]) rfl (AX.new _ _ _) K4 rfl (by simp[Value.oneCell']) fun ah y cu=>?_
   rw[CZ (by rfl)];refine j.out _ _ ⟨(y.cell (p:=zA p 2) (bh _) ck).trans ((World.cell?_alloc_lt _ _ _ ak).trans M),AX.Ab (AX.alloc (AX.drew es) _) y cr,Cw.Ab (Cw.alloc (Cw.drew Q) _) y bd⟩ fun b=>?_
   clear j u;refine hq 11 9 b ?_;refine zw ?_;have G:Am (fun v=>d.heap.size<=v) d _:=(((Aa _ d).drew).alloc _).AJ y fun k n a=>by show d.heap.size<=k;rw[a];exact AY _
   have bz:Au w _:=F.AJ G fun k n a=>by have:=F.size;omega
   go_wp2;go_ret2;refine⟨by rw[C.out];rfl,?_,bz.mono fun k n a=>a.elim⟩;unfold VH;rw[C.out,D.out];exact H.out.AB bz
  ·rw[S] at C D;obtain⟨bi,ao⟩:=M4 S;obtain⟨x,J⟩:=L;have cd:Il (x,J)∈ab:=be.mem_iff.2 (Di bi);simp only at ao C D;have bn:Hid ((Sk q,Pn x J)∈ab):=by
    show(Sk q,Pn x J)∈ab;rw[<- ao];exact cd
   have bs:=Lh bi;have ae:=Lh ao;have ad:=Lh aa;obtain⟨T,er,i,l,eq⟩:=x;clear S bi ao cd aa;go_wp2;refine GZ (fun g=>Cl g p 2 (.map (some mb))/\AX g m.heap.size 370 (Mg q)/\Cw g Tryz.prog 370 mb ab) ⟨M,es,Q⟩ fun b=>?_
   refine hq 0 19 b ?_;refine hq 1 20 b ?_;refine hq 2 21 b ?_;refine hq 3 22 b ?_;refine hq 4 23 (hx:=fun g r=>Ce (.tmp 8) rfl rfl r.2.1 Tryz.underlying370 rfl (by rw[Cy];exact ES)) b ?_;refine hq 5 24 (hx:=fun g r=>Jo (.tmp 22) (.tmp 23) rfl rfl rfl (r.2.2.Nl L6 Tryz.underlying240 bn.out true)) b ?_;refine hq 6 18 b ?_;refine hq 7 25 b ?_;refine hq 8 26 b ?_;refine Gg 9 fun u j=>?_
   go_simp;refine j.out _ _ ⟨(World.cell?_alloc_lt _ _ _ ak).trans M,es.alloc _,Cw.alloc (Cw.drew Q) _⟩ fun b=>?_
   clear j u;refine Gg 10 fun u j=>?_
   rw[AQ (by rfl)];refine Ck (.tmp 10) (.tmp 25) rfl rfl (cs':=#[zI er,zI i,zI l,zI eq,zI (wu J)]) rfl (AX.new _ _ _) K4 rfl (by simp[Value.oneCell']) fun ah y cu=>?_
   rw[CZ (by rfl)];refine j.out _ _ ⟨(y.cell (p:=zA p 2) (bh _) ck).trans ((World.cell?_alloc_lt _ _ _ ak).trans M),AX.Ab (AX.alloc (AX.drew es) _) y cr,Cw.Ab (Cw.alloc (Cw.drew Q) _) y bd⟩ fun b=>?_
   clear j u;refine hq 11 9 b ?_;refine zw ?_;have G:Am (fun v=>d.heap.size<=v) d _:=(((Aa _ d).drew).alloc _).AJ y fun k n a=>by show d.heap.size<=k;rw[a];exact AY _
   generalize World.setRow _ _ _=B at ah G ⊢;have N:AX B d.heap.size 374 #[zI er,zI i,zI l,zI eq,zI (wu J)]:=ah;have O:=W.Ab G (by omega) (by omega);have al:=es.Ab G (by omega);have bb:=bw.Ab G (by omega);have ca:Au w B:=F.AJ G fun k n a=>by have:=F.size;omega
   have dx:Cl B d.heap.size 1 (zI i):=N.cell 1;have dy:Cl B d.heap.size 2 (zI l):=N.cell 2;have dz:Cl B d.heap.size 3 (zI eq):=N.cell 3;have du:Cl B w.heap.size 3 (zI ver):=bb.cell 3;have dv:Cl B w.heap.size 4 (zI ep):=bb.cell 4;have ej:d.heap.size<B.heap.size:=N.lt;have av:=O.cells.2.2;obtain⟨ek,bc,bf⟩:=O.map;have dp:p<B.heap.size:=by omega
   clear b ah y cu bw es M Q bb bh G bn W be;by_cases Z:i=ver/\l=ep/\t<eq
   ·obtain⟨rfl,rfl,cf⟩:=Z;have V:Hid (OH q i l t Y=some ⟨T,er,i,l,eq⟩):=by
     have a:=C.out;unfold fresh at a;rw[BH ⟨rfl,rfl,cf⟩] at a;exact a
    have ar:Hid (PG q i l t uses Y=Fe q Y++[(⟨T,er,i,l,eq⟩,uses+1)]):=by
     have a:=D.out;unfold fresh at a;rw[BH ⟨rfl,rfl,cf⟩] at a;exact a
    have ed:decide (eq<=t)=false:=dF;have bl:=Lh (SB O);have cy:=Lh O;clear C D O bc bf;go_wp2_with fail;refine bl.out.mono ?_;rintro e K ⟨rfl,X,et⟩;have ai:=N.Ab et (by omega);have cm:=al.Ab et (by omega);have ea:Cl K d.heap.size 4 (zI (wu J)):=ai.cell 4;have df:=ai.frozen 4;have E:AX (K.setCell (zA d.heap.size 4) (zI (wu (uses+1)))) d.heap.size 374 #[zI er,zI i,zI l,zI eq,zI (wu (uses+1))]:=ai.Dw 4 (zI (wu (uses+1)));have P:Am (fun v=>v=d.heap.size) K (K.setCell (zA d.heap.size 4) (zI (wu (uses+1)))):=(Aa (fun v=>v=d.heap.size) K).setCell (p:=zA d.heap.size 4) (fun _=>rfl) _;have bm:=Lh E;have br:=Lh P;clear bl N al av dx dy dz du dv ai E P;go_wp2_with fail;have E:=bm.out;have P:=br.out;generalize K.setCell (zA d.heap.size 4) (zI (wu (uses+1)))=bj at E P ⊢;have az:=X.Ab P (by omega) (by omega);have cn:=cm.Ab P (by omega);have bu:=az.cells.2.2;obtain⟨dw,ch,bg⟩:=az.map;have ce:(Sk q,Pn ⟨T,er,i,l,eq⟩ J)∈dw:=by
     refine bg.mem_iff.2 ?_;have:=Di (f:=Il) bs.out;unfold Il at this;rw[ae.out] at this;exact this
    obtain⟨cx,em,l0,dr,ci,co,cp,R,eh⟩:=(ch.drew).Uy L6 Tryz.underlying240 ce (Pn ⟨T,er,i,l,eq⟩ (uses+1));have dh:Da cx p mb room (uses+1) (Fe q Y++[(⟨T,er,i,l,eq⟩,uses+1)]):=by
     have:=iX (y:=(⟨T,er,i,l,eq⟩,J)) (az.AB ((Aa _ bj).drew)) bg bs.out ci (by rw[ae.out];exact co) (by rw[ae.out];exact cp) R fun z dt=>(cy.out.all z dt).1
     rw[ae.out] at this ⊢;exact this
    have ds:d.heap.size<bj.heap.size:=E.lt;have cv:d.heap.size≠mb:=BZ bd;have dn:p<bj.heap.size:=by omega
    clear ea df bm br X cm ch bg ce ci co cp;refine GZ (fun g=>Cl g p 2 (.map (some mb))/\AX g m.heap.size 370 (Mg q)/\AX g d.heap.size 374 #[zI er,zI i,zI l,zI eq,zI (wu (uses+1))]) ⟨bu,cn,E⟩ fun b=>?_
    refine hq 0 55 b ?_;refine hq 1 56 b ?_;refine hq 2 57 b ?_;refine hq 3 58 b ?_;refine hq 4 59 (hx:=fun g r=>Ce (.tmp 8) rfl rfl r.2.1 Tryz.underlying370 rfl (by rw[Cy];exact ES)) b ?_;refine hq 5 60 (hx:=fun g r=>Ce (.tmp 10) rfl rfl r.2.2 Tryz.underlying374 rfl K4) b ?_;refine Gg 6 fun u j=>?_
    rw[AQ (by rfl)];refine Jh (.tmp 58) (.tmp 59) (.tmp 60) 240 rfl rfl rfl rfl dr ?_;rw[CZ (by rfl)];refine j.out _ _ ⟨(R.cell (p:=zA p 2) dn cj).trans bu,AX.Ab (AX.drew cn) R cq,AX.Ab (AX.drew E) R cv⟩ fun b=>?_
    clear j u;refine zw ?_;have eo:Cl cx d.heap.size 0 (zI er):=(R.cell (p:=zA d.heap.size 0) ds cv).trans (E.cell 0);go_wp2;go_ret2;refine⟨by rw[V.out];rfl,?_,?_⟩
    ·unfold VH;rw[V.out,ar.out];exact dh
    ·exact((((ca.mono (S':=Pe p mb) fun k n a=>a.elim).AJ et fun k n a=>.inl a).AJ P fun k n a=>by omega).drew).AJ R fun k n a=>.inr a
   ·have V:Hid (OH q ver ep t Y=none):=by
     have a:=C.out;unfold fresh at a;rw[BC Z] at a;exact a
    have ar:Hid (PG q ver ep t uses Y=Fe q Y):=by
     have a:=D.out;unfold fresh at a;rw[BC Z] at a;exact a
    have dj:(i != ver)=true∨((i != ver)=false/\(l != ep)=true)∨((i != ver)=false/\(l != ep)=false/\decide (eq<=t)=true):=by
     by_cases ag:i=ver
     ·by_cases aw:l=ep
      ·refine .inr (.inr ⟨by simp[ag],by simp[aw],?_⟩);rw[Bb];by_cases dg:t<eq
       ·exact Bv ⟨ag,aw,dg⟩ Z
       ·omega
      ·exact .inr (.inl ⟨by simp[ag],by simpa using aw⟩)
     ·exact .inl (by simpa using ag)
    obtain⟨K,el,dq,cg,cc,et,eg⟩:=(bc.drew).del L6 Tryz.underlying240 (PL ad.out.2) 0;have X:Da K p mb room uses (Fe q Y):=(O.AB ((Aa _ B).drew)).drop bf cg et ad.out cc;have cz:=Lh X;clear C D Z O bc bf cg cc X N;rcases dj with bt|⟨bt,db⟩|⟨bt,db,ec⟩
    all_goals
     go_wp2;refine GZ (fun g=>Cl g p 2 (.map (some mb))/\AX g m.heap.size 370 (Mg q)) ⟨av,al⟩ fun b=>?_
     refine hq 0 47 b ?_;refine hq 1 48 b ?_;refine hq 2 49 b ?_;refine hq 3 50 b ?_;refine hq 4 51 (hx:=fun g r=>Ce (.tmp 8) rfl rfl r.2 Tryz.underlying370 rfl (by rw[Cy];exact ES)) b ?_;refine Gg 5 fun u j=>?_
     rw[AQ (by rfl)];refine Kr (.tmp 50) (.tmp 51) 240 370 rfl rfl rfl dq ?_;rw[CZ (by rfl)];refine j.out _ _ ⟨(et.cell (p:=zA p 2) dp cj).trans av,AX.Ab (AX.drew al) et cq⟩ fun b=>?_
     clear j u;refine zw ?_;go_wp2;go_ret2;refine⟨by rw[V.out];rfl,?_,?_⟩
     ·unfold VH;rw[V.out,ar.out];exact cz.out
     ·exact((ca.mono (S':=Pe p mb) fun k n a=>a.elim).drew).AJ et fun k n a=>.inr a
end
theorem Mc {w:Bc} {base e size n:Nat} {A:Option Addr} {c:Nat} {xs:List Value} (a:w.ownsRow base e size (.slice A n c) n xs):n<=c/\c<=maxLen/\((A=none/\n=0/\c=0)∨∃ g,A=some (zA g 0)):=by
 rcases a.2 with⟨a,b⟩|⟨g,m,o,l,_,q,k,j,_⟩
 ·injection a with d p f;exact⟨by omega,by unfold maxLen;omega,.inl ⟨d,b,f⟩⟩
 ·injection l with h _ i;subst i;exact⟨k,j,.inr ⟨g,h⟩⟩
theorem MB {w:Bc} {base base' e size n:Nat} {v:Value} {xs:List Value} (f:w.ownsRow base e size v n xs) (i:base'<=base):w.ownsRow base' e size v n xs:=by
 obtain⟨g,a⟩:=f;refine⟨g,?_⟩;rcases a with a|⟨d,b,c,rfl,j,h⟩
 ·exact .inl a
 ·exact .inr ⟨d,b,c,rfl,by omega,h⟩
theorem Ic {w:Bc} {base e size n g:Nat} {v:Value} {xs:List Value} (c:w.ownsRow base e size v n xs) (a:v.ownBlock=some g):base<=g/\∃ cs,AX w g e cs:=by
 rcases c.2 with⟨rfl,_⟩|⟨b,h,i,rfl,d,f,_⟩
 ·simp[Value.ownBlock] at a
 ·have:b=g:=by simpa [Value.ownBlock] using a
  subst this;exact⟨d,_,f⟩
def Im:Option Nat->Int
 |some i=>i
 |none=>-1
theorem Iz:(Tryz.prog.info? 27).map (fun i=>(i.zero,i.size,i.bytes))=some (some (zE),1,16):=by kernel_rfl
theorem MK:∀ x:BB,∀ u∈(Value.string x).cells.toList,u.oneCell'=true:=fun x u a=>by
 simp only[Value.cells,BI,CW,or_false] at a;rw[a];rfl
theorem Yo {b:Option Addr} {n d a i cap c:Nat} (f:(Value.slice b n d).ownBlock=some a∨a=c+1):∀ g,(Value.slice (some (zA a 0)) i cap).ownBlock=some g->(Value.slice b n d).ownBlock=some g∨c<=g:=fun g h=>by
 have:a=g:=by simpa [Value.ownBlock] using h
 subst this;rcases f with e|e
 ·exact .inl e
 ·exact .inr (by omega)
theorem Gf {d : Type} {V:d->Value} (e:∀ x,(V x).cells=#[V x]) {a:Bc} {g:Nat} {t:TypeId} {cs:Array Value} (c:AX a g t cs) (xs:List d) (f:cs.toList=xs.map V):Ay V a a.heap.size 1 (some (zA g 0)) xs:=fun b h=>by
 refine⟨g,0,rfl,c.lt,fun i j=>?_⟩;obtain rfl:i=0:=by omega
 rw[c.cell (0+b*1+0),e];have:cs[b]?= some (V xs[b]):=by
  rw[<- Em,f,Ch,Ah h];rfl
 simpa using this
theorem reads_nil {c : Type} {V:c->Value} {a:Bc} {B:Nat} {A:Option Addr}:Ay V a B 1 A []:=fun d b=>by simp at b
theorem K3 {n:Int} (a:0<=n) (b:n<=10):i64 n:=⟨by omega,by omega⟩

section
open Go.Maps (Keyed)
structure EH where
 ch:Int
 A:Option Addr
 c:Nat
 who:List BB
 last:Int
def EH.cs (x:EH):Array Value:=#[zU x.ch,.slice x.A x.who.length x.c,zI x.last]
def Ib (x:EH):Value:=.agg x.cs
theorem ZT:∀ x:EH,∀ u∈(Ib x).cells.toList,u.oneCell'=true:=fun x u a=>by
 simp only[Ib,EH.cs,Value.cells,BI,CW,or_false] at a;rcases a with rfl|rfl|rfl<;>rfl
theorem PK:(Tryz.prog.info? 226).map (fun i=>(i.zero,i.size,i.bytes))=some (some (.agg #[zU 0,zN,zO]),3,40):=by kernel_rfl
def EH.ownB (x:EH):Option Nat:=(Value.slice x.A x.who.length x.c).ownBlock
def QX (c:Int):Value × Value:=(zU c,.agg #[])
structure EO (W:Bc) (base t mb:Nat) (room:Int) (E:List EH) (G:List Int):Prop where
 ge:base<=t
 gm:base<=mb
 row:∃ v,AX W t 168 #[zI room,v,.map (some mb)]/\W.ownsRow base 226 3 v E.length (BN Ib E)
 gone:Cw W Tryz.prog 25 mb (G.map QX)
 who:∀ x∈E,W.ownsRow base 27 1 (.slice x.A x.who.length x.c) x.who.length (x.who.map Value.string)
 set:∀ x∈E,D9 x.who=true
 nH:∀ x∈E,Ey x.ch
 o9:∀ c∈G,Ey c
def Io (base mb:Nat) (w:Bc) (k:Nat):Prop:=k=mb∨base<=k/\∃ t a,AX w k t a/\(t=168∨t=226)
section
variable {w w':Bc} {base t mb:Nat} {room:Int} {E:List EH} {G:List Int}
theorem Io.not {ty:TypeId} {cs:Array Value} {k:Nat} (b:AX w k ty cs) (c:ty≠168) (d:ty≠226) (e:k≠mb):¬Io base mb w k:=by
 rintro(b|⟨_,g,h,a,ht⟩)
 ·exact e b
 ·have f:ty=g:=by
   unfold AX at b a;rw[b] at a;injection a with a;injection a
  subst f;rcases ht with ht|ht
  ·exact c ht
  ·exact d ht
theorem EO.lt (a:EO w base t mb room E G):t<w.heap.size/\mb<w.heap.size:=by
 obtain⟨c,b,_⟩:=a.row;exact⟨b.lt,a.gone.lt⟩
theorem EO.beside {S:Nat->Prop} (a:EO w base t mb room E G) (b:Am S w w') (f:∀ k ty cs,base<=k->AX w k ty cs->(ty=168∨ty=226)->¬S k) (j:∀ x∈E,∀ g cs,x.ownB=some g->base<=g->AX w g 27 cs->¬S g) (l:¬S mb):EO w' base t mb room E G:=by
 obtain⟨m,h,i⟩:=a.row;refine⟨a.ge,a.gm,⟨m,h.Ab b (f t _ _ a.ge h (.inl rfl)),Aj i b fun g c=>?_⟩,a.gone.Ab b l,fun x hx=>Aj (a.who x hx) b fun g c=>?_,a.set,a.nH,a.o9⟩
 ·obtain⟨d,cs,e⟩:=Ic i c;exact f g _ cs d e (.inr rfl)
 ·obtain⟨d,cs,e⟩:=Ic (a.who x hx) c;exact j x hx g cs c d e
theorem EO.AB (a:EO w base t mb room E G) (b:Au w w'):EO w' base t mb room E G:=a.beside b (fun _ _ _ _ _ _ a=>a) (fun _ _ _ _ _ _ _ a=>a) id
theorem EO.reads (a:EO w base t mb room E G) {x:EH} (hx:x∈E):Ay Value.string w w.heap.size 1 x.A x.who:=Ay.Ea (V:=Value.string) (fun _=>rfl) (a.who x hx)
end
def FV (c:Int) (E:List EH):Option Nat:=E.findIdx? fun a=>a.ch==c
theorem Uu {c:Int} {E:List EH} {j:Nat} {x:EH} (hx:E[j]?= some x) (hq:(x.ch==c)=true) (d:∀ i y,i<j->E[i]?= some y->(y.ch==c)=false):FV c E=some j:=by
 unfold FV;rw[Cj];obtain⟨b,rfl⟩:=AC.1 hx;refine⟨b,hq,fun i a=>?_⟩;have:=d i _ a (Ah (by omega));simp[this]
theorem Ut {c:Int} {E:List EH} (b:∀ i y,i<E.length->E[i]?= some y->(y.ch==c)=false):FV c E=none:=by
 unfold FV;rw[Ct];intro d hx;obtain⟨i,a,rfl⟩:=CQ hx;exact b i _ a (Ah a)
theorem NZ {c:Int} {E:List EH} {i:Nat} (b:FV c E=some i):∃ x,E[i]?= some x/\x∈E/\x.ch=c/\i<E.length:=by
 unfold FV at b;obtain⟨a,d,_⟩:=Cj.1 b;exact⟨E[i],Ah a,Br a,by simpa using d,a⟩
theorem dL (c ch b:Int) (A:Option Addr) (n a g:Nat) (w:Bc) (e:Cl w g 0 (zU c)) (f:g<w.heap.size) :
  Calls Tryz.prog 213 #[.agg #[zU ch,.slice A n a,zI b],zP g] w (Rt (.bool (ch==c)) (Au w)):=by
 have d:Hid (Au w (w.alloc (.cells #[zU ch,.slice A n a,zI b] 226))):=Lh ((Aa _ w).alloc _);go_in;go_wp2;go_ret;exact⟨rfl,d.out⟩
theorem iD (c:Int) (f:Nat) (s:Option Addr) (I:Nat) (E:List EH) (w:Bc) (R:E.length<=1000000) (F:Ay Ib w w.heap.size 3 s E) (z:Cl w f 0 (zU c)) (C:f<w.heap.size) :
  Calls Tryz.prog 212 #[.slice s E.length I,.func (.func 213) #[] #[zP f]] w (Rt (zI (Im (FV c E))) (Au w)):=by
 have H:=Lh F;have G:=Lh z;clear F z;go_in;go_wp2;go_loopg [8] E.length fun gk d wr=>∃ a:Nat,a+gk=E.length/\d=zI a/\Au w wr/\∀ d e,d<a->E[d]?= some e->(e.ch==c)=false
 case atStart=>exact⟨0,Bz _,rfl,Aa _ _,fun d e k=>by omega⟩
 case round =>
  obtain⟨a,A,rfl,g,D⟩:=hrel;have o:=Lh D;clear D;by_cases B:a<E.length
  ·obtain⟨h,m,rfl,J,q⟩:=H.out a B;obtain⟨b,r⟩:∃ b,b=E[a]:=⟨_,rfl⟩
   have x:Hid (E[a]?= some b):=Lh (by rw[r];exact Ah B);rw[<- r] at q;have j:=fun d k=>(g.cell (p:=zA h (m+a*3+d)) J id).trans (q d k)
   have N:Cl wr h (m+a*3) (zU b.ch):=j 0 (by omega);have O:Cl wr h (m+a*3+1) (.slice b.A b.who.length b.c):=j 1 (by omega);have P:Cl wr h (m+a*3+2) (zI b.last):=j 2 (by omega);have n:=dL c b.ch b.last b.A b.who.length b.c f wr ((g.cell (p:=zA f 0) C id).trans G.out) (Bj C g.size);have S:(0:Int)<=(a:Int):=by omega
   have M:(a:Int)<(E.length:Int):=by omega
   clear r q j;rcases hq:(b.ch==c) with _|_
   all_goals
    rw[hq] at n;have t:=Lh n;have v:=Lh hq;have u:=Lh A;clear hq n A;go_wp2_with fail;refine t.out.mono ?_;rintro Q T ⟨rfl,L⟩;have y:=g.to L;clear t;go_wp2_with fail
   ·go_roundg (gk-1)
    case measure=>have:=u.out;omega
    case rel =>
     refine⟨a+1,by have:=u.out;omega,by go_num,y,fun d e k l=>?_⟩;by_cases K:d=a
     ·subst K;have i:=x.out;rw[l] at i;injection i with i;rw[i];exact v.out
     ·exact o.out d e (by omega) l
   ·go_ret;exact⟨by rw[Uu x.out v.out o.out];rfl,y⟩
  ·have M:¬(a:Int)<(E.length:Int):=by omega
   go_wp2;go_ret;exact⟨by rw[Ut fun d e k l=>o.out d e (by omega) l];rfl,g⟩
theorem NJ {w:Bc} {base t mb:Nat} {room:Int} {E:List EH} {G:List Int} (h:EO w base t mb room E G) (i:E.length<=1000000) (c:Int) :
  Calls Tryz.prog 186 #[.pointer (some (zA t 1)),zU c] w (Rt (zI (Im (FV c E))) (Au w)):=by
 obtain⟨n,a,b⟩:=h.row;obtain⟨d,g,rfl⟩:=BD b;have m:=a.lt;have k:Cl w t 1 (.slice d E.length g):=a.cell 1;have f:Hid (Au w (w.alloc (.cells #[zU c] 25))):=Lh ((Aa _ w).alloc _);have e:=Lh (iD c w.heap.size d g E (w.alloc (.cells #[zU c] 25)) i ((Ay.Hu (V:=Ib) (fun _=>rfl) b).AB f.out) ((AX.new w 25 #[zU c]).cell 0) (by simp));clear b a h;go_in;go_wp2_with fail;refine e.out.mono ?_;rintro l o ⟨rfl,j⟩;clear e;go_wp2;go_ret;exact⟨rfl,f.out.to j⟩
end
end Go.Proofs.YtcjcndnjpedniaaGreat
