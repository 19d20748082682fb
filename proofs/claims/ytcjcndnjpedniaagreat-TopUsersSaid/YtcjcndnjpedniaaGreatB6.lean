/- A part of the proof of TopUsers. -/
import Derived.Lib.AppendStr
import Derived.Laws.Bits64b
import Derived.Test.YtcjcndnjpedniaaGreatB5
namespace Go.Proofs.YtcjcndnjpedniaaGreat
set_option linter.all false
set_option maxRecDepth 100000
set_option maxHeartbeats 8000000
open Go.RowKit
def GD (c:Int) (who:List BB) (E:List EH) (G:List Int):Int :=
 if c/8192≠2 then 1 else if D9 who=false then 2 else if(JN c E).isSome then 11 else if J6 c G then 21 else 0
def outT (room:Int) (E:List EH):Int:=if room<=(E.length:Int) then(match E with|a::_=>a.ch|[]=>0) else 0
def RU (room:Int) (E:List EH):List EH:=if room<=(E.length:Int) then E.tail else E
def Nb (room:Int) (E:List EH) (G:List Int):List Int:=if room<=(E.length:Int) then G++[outT room E] else G
def Zj (w:Bc) (base t mb:Nat) (room c:Int) (who:List BB) (E:List EH) (G:List Int) (e:Ending) (w':Bc):Prop :=
 (GD c who E G≠0/\e= .returned (.tuple #[zU 0,zI (GD c who E G)])/\EO w' base t mb room E G/\Au w w') ∨
 (GD c who E G=0/\∃ a:EH,a.ch=c/\a.who=who/\a.last = -1/\(∀ b,a.ownB=some b->w.heap.size<=b)/\e= .returned (.tuple #[zU (outT room E),zO])/\EO w' base t mb room (RU room E++[a]) (Nb room E G)/\Am (Io base mb w) w w')
section
variable {w w' W w3:Bc} {base t mb:Nat} {room:Int} {E:List EH} {G:List Int} {c:Int} {who:List BB}
theorem Io.back {k:Nat} (g:Am (Io base mb w) w W) (a:Io base mb W k) (hk:k<w.heap.size):Io base mb w k:=by
 by_cases c:Io base mb w k
 ·exact c
 ·rcases a with a|⟨e,h,d,b,f⟩
  ·exact .inl a
  ·refine .inr ⟨e,h,d,?_,f⟩;unfold AX at b ⊢;rw[<- g.block k hk c];exact b
theorem TJ (a:FV c E=none):JN c E=none:=MX a
theorem VG {i:Nat} (a:FV c E=some i):(JN c E).isSome=true:=by
 obtain⟨d,b,_⟩:=NZ a;unfold JN;rw[M5 a b];rfl
theorem Um (a:FV c E=none):∀ x∈E,x.ch≠c:=fun x hx b=>by
 unfold FV at a;have:=Ct.1 a x hx;rw[b] at this;simp at this
theorem Ot (a:∀ x∈E,x.ch≠c):Hf c E=E:=by
 have:FV c E=none:=by
  unfold FV;rw[Ct];intro x hx;simpa using a x hx
 unfold Hf;rw[this]
theorem Pz {x:EH}:Hf x.ch (x::E)=E:=by
 have:FV x.ch (x::E)=some 0:=by
  unfold FV;rw[List.findIdx?_cons];simp
 unfold Hf;rw[this];rfl
theorem We (di:EO w base t mb room E G) (bz:E.length<=1000) (R:Ey c) (dd:1<=room) (cb:∀ x∈E,x.ch∉G) (A:Option Addr) (ao:Nat) (cq:who.length<=1000) (cg:∀ s∈who,s.size<=1000000) (bp:Ay Value.string w w.heap.size 1 A who) (cf:∀ b o,0<who.length->A=some (zA b o)->b<w.heap.size->¬Io base mb w b) :
  Calls Tryz.prog 144 #[zP t,zU c,.slice A who.length ao] w (Zj w base t mb room c who E G):=by
 have M:=Lh di;have cl:=Lh cb;have an:=Lh bp;have bw:=Lh cf;have dc:=di.lt;have ch:c.tdiv 8192=c/8192:=Dk R.1;have cz:=R.1;have da:=R.2;have D:=Km A ao who w cq cg bp;clear cb bp cg cf;by_cases g:c/8192=2
 ·have cs:(c/8192!=2)=false:=by simp[g]
  have al:=Lh g;clear g ch;rcases n:D9 who with _|_
  ·rw[n] at D;have r:=Lh D;have h:Hid (GD c who E G=2):=by
    show GD c who E G=2;unfold GD;rw[Bg (by rw[al.out];decide),AQ n]
   clear D n di;go_in;go_wp2_with fail;refine r.out.mono ?_;rintro i aj ⟨rfl,f,rfl⟩;clear r;go_wp2;go_ret2;exact .inl ⟨by rw[h.out];decide,by rw[h.out];rfl,M.out.AB ((Aa _ w).drewN f),(Aa _ w).drewN f⟩
  ·rw[n] at D;have r:=Lh D;have C:=fun f=>NJ (di.AB ((Aa _ w).drewN f)) (by omega) c
   rcases S:FV c E with _|T
   ·rw[S] at C;simp only[Im] at C;have U:=Lh C;have bu:=Lh (TJ S);have bv:=Lh (Um S);clear D C S;rcases dj:J6 c G with _|_
    ·have h:Hid (GD c who E G=0):=by
      show GD c who E G=0;unfold GD;rw[Bg (by rw[al.out];decide),Bg (by rw[n];decide),bu.out,Bg (by simp),dj];rfl
     have cd:=dj;clear di;have aw:=Lh cd;clear dj cd;go_in;go_wp2_with fail;refine r.out.mono ?_;rintro i aj ⟨rfl,f,rfl⟩;clear r;have Y:Au w (w.drewN f):=(Aa _ w).drewN f;have L:=Lh (U.out f);generalize w.drewN f=aj at Y L ⊢;clear U;go_wp2_with fail;refine L.out.mono ?_;rintro i w3 ⟨rfl,Z⟩;clear L;have dl:=Y.to Z;have J:=PH (M.out.AB dl) R;rw[aw.out] at J;have ak:=Lh J;clear J Y Z;go_wp2_with fail;refine ak.out.mono ?_;rintro i ct ⟨rfl,af⟩;clear ak;have be:=dl.to af;have ba:=M.out.AB be;have bt:=Lh (TU ba (by omega));clear dl af;go_wp2_with fail;refine bt.out.mono ?_;rintro i aa ⟨ck,cx,rfl,ca,bg⟩;clear bt;have bf:=be.to bg;have X:=ba.AB bg;obtain⟨dh,bx,_⟩:=X.row;have dg:Cl aa t 0 (zI room):=bx.cell 0;have cj:Ay lM aa aa.heap.size 1 ck E:=Ay.Ea (V:=lM) (fun _=>rfl) ca;have cm:=Lh cj;clear ba ca bg bx cj be;by_cases q:room<=(E.length:Int)
     ·have cn:decide (room<=(E.length:Int))=true:=by simpa using q
      have ce:0<E.length:=by omega
      obtain⟨b,o,co,cy,bl⟩:=Ay.BV (V:=lM) (fun _=>rfl) cm.out ce;subst co;obtain⟨x,u,H⟩:∃ x u,E=x::u:=by
       cases E with
       |nil=>simp at ce
       |cons x u=>exact⟨x,u,rfl⟩
      have ci:E[0]=x:=by subst H;rfl
      rw[ci,F7] at bl;have db:Cl aa b o (zU x.ch):=bl;have bq:x∈E:=by rw[H];simp
      have am:Hid (outT room E=x.ch):=by show outT room E=_;unfold outT;rw[AQ q,H]
      have ar:Hid (RU room E=u):=by show RU room E=_;unfold RU;rw[AQ q,H];rfl
      have ax:Hid (Nb room E G=G++[x.ch]):=by show Nb room E G=_;unfold Nb;rw[AQ q,am.out]
      have au:Hid (Hf c u=u):=Lh (Ot fun z cr=>bv.out z (by rw[H];simp[cr]));have aq:=VD X (by omega) (X.nH x bq) (cl.out x bq);have cc:Hf x.ch E=u:=by rw[H];exact Pz
      rw[cc] at aq;have bs:=Lh aq;have bo:u.length<=100000:=by rw[H] at bz;simp at bz;omega
      have df:(0:Int)<(E.length:Int):=by omega
      clear aq cc ci bl bq H q X;go_wp2_with fail;refine bs.out.mono ?_;rintro i d ⟨rfl,F,cp⟩;clear bs;have l:Am (Io base mb w) w d:=(bf.mono fun _ _ di=>di.elim).AJ cp fun k g di=>by
       rcases di with di|di
       ·exact .inl di
       ·exact .inr (G5.since bf g di)
      have ah:Ay Value.string d d.heap.size 1 A who:=fun j bn=>by
       obtain⟨v,B,y,dm,ad⟩:=an.out j bn;exact⟨v,B,y,Bj dm l.size,fun T bm=>(l.cell (p:=zA v (B+j*1+T)) dm (bw.out v B (by omega) y dm)).trans (ad T bm)⟩
      have bd:∃ a,A=some a:=by
       obtain⟨v,B,bc,_⟩:=an.out 0 (by have:=(Cm n).1;omega);exact⟨_,bc⟩
      obtain⟨az,rfl⟩:=bd;have ab:=Lh (JG az ao who d.drew (by omega) (ah.AB ((Aa _ d).drew)));clear ah;go_wp2;refine GZ (fun W=>True) trivial fun e=>?_
      refine hq 0 47 e ?_;refine hq 1 48 e ?_;refine hq 2 49 e ?_;refine hq 3 50 e ?_;refine hq 4 51 e ?_;refine Gg 5 fun N m=>?_
      go_simp;go_at_call 130;refine ab.out.mono ?_;rintro i cu ⟨I,O,rfl,Q,bh⟩;go_wp2;refine m.out _ _ trivial fun e=>?_
      clear m N;refine hq 6 53 e ?_;have P:=((T0 d).drew).to bh;have bb:=F.AB P;have bk:base<=d.drew.heap.size:=by have:=F.ge;have:=F.lt;show base<=d.heap.size;omega
      have K:=Qd bb bo ⟨c,I,O,who,-1⟩ (MB Q bk) n R;simp only at K;have ac:=Lh K;have ag:∀ dk,(Value.slice I who.length O).ownBlock=some dk->d.drew.heap.size<=dk:=fun dk dj=>BQ Q dj
      have av:=Lh ag;clear K ag Q;refine Gg 7 fun N m=>?_
      go_simp;go_at_call 187;refine ac.out.mono ?_;rintro i cv ⟨rfl,ae,bi⟩;go_wp2;refine m.out _ _ trivial fun e=>?_
      clear m N;refine zw ?_;clear ab ac;go_wp2;go_ret2;refine .inr ⟨h.out,⟨c,I,O,who,-1⟩,rfl,rfl,rfl,fun dk dj=>?_,by rw[am.out];rfl,?_,?_⟩
      ·have y:=av.out dk dj;have dm:w.heap.size<=d.heap.size:=l.size;have ad:d.heap.size<=dk:=y;omega
      ·rw[ar.out,ax.out];rw[au.out] at ae;exact ae
      ·refine l.AJ ((P.mono fun _ _ di=>di.elim).AJ bi fun k g di=>G5.since P g di) fun k g di=>?_
       exact Io.back l (.inr di) g
     ·have cn:decide (room<=(E.length:Int))=false:=by simpa using q
      have am:Hid (outT room E=0):=by show outT room E=_;unfold outT;rw[Bg q]
      have ar:Hid (RU room E=E):=by show RU room E=_;unfold RU;rw[Bg q]
      have ax:Hid (Nb room E G=G):=by show Nb room E G=_;unfold Nb;rw[Bg q]
      have au:Hid (Hf c E=E):=Lh (Ot bv.out);have bo:E.length<=100000:=by omega
      have F:=X;have l:Am (Io base mb w) w aa:=bf.mono fun _ _ di=>di.elim
      clear q X;obtain⟨d,bj⟩:∃ d,d=aa:=⟨_,rfl⟩
      go_wp2_with fail;rw[<- bj] at F l;rw[<- bj];clear bj;have ah:Ay Value.string d d.heap.size 1 A who:=fun j bn=>by
       obtain⟨v,B,y,dm,ad⟩:=an.out j bn;exact⟨v,B,y,Bj dm l.size,fun T bm=>(l.cell (p:=zA v (B+j*1+T)) dm (bw.out v B (by omega) y dm)).trans (ad T bm)⟩
      have bd:∃ a,A=some a:=by
       obtain⟨v,B,bc,_⟩:=an.out 0 (by have:=(Cm n).1;omega);exact⟨_,bc⟩
      obtain⟨az,rfl⟩:=bd;have ab:=Lh (JG az ao who d.drew (by omega) (ah.AB ((Aa _ d).drew)));clear ah;go_wp2;refine GZ (fun W=>True) trivial fun e=>?_
      refine hq 0 47 e ?_;refine hq 1 48 e ?_;refine hq 2 49 e ?_;refine hq 3 50 e ?_;refine hq 4 51 e ?_;refine Gg 5 fun N m=>?_
      go_simp;go_at_call 130;refine ab.out.mono ?_;rintro i cu ⟨I,O,rfl,Q,bh⟩;go_wp2;refine m.out _ _ trivial fun e=>?_
      clear m N;refine hq 6 53 e ?_;have P:=((T0 d).drew).to bh;have bb:=F.AB P;have bk:base<=d.drew.heap.size:=by have:=F.ge;have:=F.lt;show base<=d.heap.size;omega
      have K:=Qd bb bo ⟨c,I,O,who,-1⟩ (MB Q bk) n R;simp only at K;have ac:=Lh K;have ag:∀ dk,(Value.slice I who.length O).ownBlock=some dk->d.drew.heap.size<=dk:=fun dk dj=>BQ Q dj
      have av:=Lh ag;clear K ag Q;refine Gg 7 fun N m=>?_
      go_simp;go_at_call 187;refine ac.out.mono ?_;rintro i cv ⟨rfl,ae,bi⟩;go_wp2;refine m.out _ _ trivial fun e=>?_
      clear m N;refine zw ?_;clear ab ac;go_wp2;go_ret2;refine .inr ⟨h.out,⟨c,I,O,who,-1⟩,rfl,rfl,rfl,fun dk dj=>?_,by rw[am.out];rfl,?_,?_⟩
      ·have y:=av.out dk dj;have dm:w.heap.size<=d.heap.size:=l.size;have ad:d.heap.size<=dk:=y;omega
      ·rw[ar.out,ax.out];rw[au.out] at ae;exact ae
      ·refine l.AJ ((P.mono fun _ _ di=>di.elim).AJ bi fun k g di=>G5.since P g di) fun k g di=>?_
       exact Io.back l (.inr di) g
    ·have h:Hid (GD c who E G=21):=by
      show GD c who E G=21;unfold GD;rw[Bg (by rw[al.out];decide),Bg (by rw[n];decide),bu.out,Bg (by simp),dj];rfl
     have aw:=Lh dj;clear dj di;go_in;go_wp2_with fail;refine r.out.mono ?_;rintro i aj ⟨rfl,f,rfl⟩;clear r;have Y:Au w (w.drewN f):=(Aa _ w).drewN f;have L:=Lh (U.out f);generalize w.drewN f=aj at Y L ⊢;clear U;go_wp2_with fail;refine L.out.mono ?_;rintro i w3 ⟨rfl,Z⟩;clear L;have dl:=Y.to Z;have J:=PH (M.out.AB dl) R;rw[aw.out] at J;have ak:=Lh J;clear J;go_wp2_with fail;refine ak.out.mono ?_;rintro i ct ⟨rfl,af⟩;go_wp2;go_ret2;exact .inl ⟨by rw[h.out];decide,by rw[h.out];rfl,M.out.AB (dl.to af),dl.to af⟩
   ·rw[S] at C;simp only[Im] at C;have U:=Lh C;have h:Hid (GD c who E G=11):=by
     show GD c who E G=11;unfold GD;rw[Bg (by rw[al.out];decide),Bg (by rw[n];decide),AQ (VG S)]
    have de:(0:Int)<=(T:Int):=by omega
    clear D C S di;go_in;go_wp2_with fail;refine r.out.mono ?_;rintro i aj ⟨rfl,f,rfl⟩;clear r;go_wp2_with fail;refine(U.out f).mono ?_;rintro i w3 ⟨rfl,Z⟩;go_wp2;go_ret2;have dl:=((T0 w).drewN f).to Z;exact .inl ⟨by rw[h.out];decide,by rw[h.out];rfl,M.out.AB dl,dl⟩
 ·have cs:(c/8192!=2)=true:=by rw[bne_iff_ne];exact g
  have h:Hid (GD c who E G=1):=by
   show GD c who E G=1;unfold GD;rw[AQ g]
  clear g D di ch;go_in;go_wp2;go_ret2;exact .inl ⟨by rw[h.out];decide,by rw[h.out];rfl,M.out,Aa _ _⟩
end

structure lI (w wr:Bc) (t mb:Nat) (room:Int) (E:List EH) (G:List Int):Prop where
 tab:EO wr w.heap.size t mb room E G
 since:Au w wr
 keys:E.Pairwise fun a b=>a.ch≠b.ch
 rE:∀ x∈E,x.ch∉G
 len:(E.length:Int)<=room
 lo:1<=room
 hi:room<=50
 span:∀ x∈E,x.ch/8192=2
section
variable {w wr w':Bc} {t mb:Nat} {room c:Int} {E:List EH} {G:List Int} {who:List BB}
theorem Io.ge {base k:Nat} (b:base<=mb) (a:Io base mb w k):base<=k:=by
 rcases a with a|a
 ·omega
 ·exact a.1
theorem lI.AB (a:lI w wr t mb room E G) (b:Au wr w'):lI w w' t mb room E G:=⟨a.tab.AB b,a.since.to b,a.keys,a.rE,a.len,a.lo,a.hi,a.span⟩
end

def bV (b:UInt8):Value:=.int .u8 b.toNat
def Dy (bs:List UInt8):BB:=⟨bs.toArray⟩
theorem E5 (bs:List UInt8):(Dy bs).size=bs.length:=rfl
theorem Nn (bs:List UInt8):(Dy bs).data.toList=bs:=rfl
theorem UJ (s:BB):Lib.strCells s=s.data.toList.map bV:=rfl
def BL (n:Nat):List UInt8:=if a:n<128 then[UInt8.ofNat n] else UInt8.ofNat (n%128+128)::BL (n/128)
 termination_by n
 decreasing_by omega
theorem JX {n:Nat} (a:n<128):BL n=[UInt8.ofNat n]:=by unfold BL;rw[dif_pos a]
theorem LZ {n:Nat} (a:¬n<128):BL n=UInt8.ofNat (n%128+128)::BL (n/128):=by rw[BL,dif_neg a]
theorem Y0 {w:Bc} {base:Nat} {A:Option Addr} {c n:Nat} {bs:List UInt8} {ty:TypeId} (p:Tryz.prog.underlying ty=some .string) (e:w.ownsRow base 5 1 (.slice A n c) n (bs.map bV)) :
  (convert 84 ty (.slice A n c)).run Tryz.prog w= .ok (.string (Dy bs)) w:=by
 rw[run_convert_bytes_string _ 84 ty 5 _ _ _ Tryz.underlying84 Tryz.underlying5 p];have g:bs.length=n:=by simpa using e.1
 rcases e.2 with⟨a,j⟩|⟨h,s,t,a,_⟩
 ·injection a with f _ d;subst f d;subst j;have o:bs=[]:=EI.1 g;subst o;rfl
 ·injection a with f _ d;subst f;have k:(bs.map fun b=>(b.toNat:Int)).foldl (fun r n=>r.push (UInt8.ofNat n.toNat)) ByteArray.empty=Dy bs:=by
   rw[Ob,Gs];have:(fun n:Int=>UInt8.ofNat n.toNat) ∘ (fun b:UInt8=>(b.toNat:Int))=id:=by
    funext b;simp
   rw[this,List.map_id];simp[ByteArray.empty,ByteArray.emptyWithCapacity,Dy];rfl
  rw[<- k];refine run_bytesToString _ (zA h 0) n c _ ?_;have i:=run_loadCells_list (P:=Tryz.prog) w (zA h 0) (bs.map bV) (by
   intro q v a;have m:q<n:=by
    have:=(AC.1 a).1;simpa [g] using this
   obtain⟨u,l,_,d⟩:=KX e m;cases l;have:=d 0 (by omega);simp only[Fy,F7] at this;simp only[Addr.add_lit,Bz];rw[this];exact a)
  rw[Be,g] at i;rw[Gs];exact i
structure BK (W:Bc) (base o:Nat) (bs:List UInt8):Prop where
 ge:base<=o
 row:∃ v,AX W o 175 #[zO,v]/\W.ownsRow base 5 1 v bs.length (bs.map bV)
def BO (base o:Nat) (w:Bc) (k:Nat):Prop:=k=o∨base<=k/\∃ a,AX w k 5 a
section
variable {w w' W:Bc} {base o:Nat} {bs:List UInt8}
theorem BO.not {t:TypeId} {cs:Array Value} {k:Nat} (b:AX w k t cs) (d:k≠o) (e:t≠5):¬BO base o w k:=by
 rintro(c|⟨_,f,a⟩)
 ·exact d c
 ·unfold AX at b a;rw[b] at a;injection a with a;injection a with _ a;exact e a
theorem BO.ge {k:Nat} (b:base<=o) (a:BO base o w k):base<=k:=by
 rcases a with a|a
 ·omega
 ·exact a.1
theorem BO.back {k:Nat} (f:Am (BO base o w) w W) (a:BO base o W k) (hk:k<w.heap.size):BO base o w k:=by
 by_cases c:BO base o w k
 ·exact c
 ·rcases a with a|⟨e,d,b⟩
  ·exact .inl a
  ·refine .inr ⟨e,d,?_⟩;unfold AX at b ⊢;rw[<- f.block k hk c];exact b
theorem BO.AJ {w2:Bc} (a:Am (BO base o w) w W) (b:Am (BO base o W) W w2):Am (BO base o w) w w2:=Am.AJ a b fun _ d c=>BO.back a c d
theorem BK.lt (a:BK w base o bs):o<w.heap.size:=by
 obtain⟨c,b,_⟩:=a.row;exact b.lt
theorem BK.AB (a:BK w base o bs) (b:Au w w'):BK w' base o bs:=by
 obtain⟨e,c,d⟩:=a.row;exact⟨a.ge,e,c.Ab b id,Aj d b fun _ _ a=>a⟩
theorem BK.new (w:Bc):BK (w.alloc (.cells #[zO,zN] 175)) w.heap.size w.heap.size [] :=
 ⟨AY _,_,AX.new w _ _,⟨by simp,.inl ⟨rfl,rfl⟩⟩⟩
theorem BK.more {v a:Value} {cs:List UInt8} (l:BK w base o bs) (d:AX w o 175 #[zO,v]) (e:w.ownsRow base 5 1 v bs.length (bs.map bV)) (f:Am (fun k=>v.ownBlock=some k) w W) (c:W.ownsRow base 5 1 a (bs.length+cs.length) (bs.map bV++cs.map bV)) :
  BK (W.setCell (zA o 1) a) base o (bs++cs)/\Am (BO base o w) w (W.setCell (zA o 1) a):=by
 have b:AX W o 175 #[zO,v]:=d.Ab f (Ba e d (by decide));refine⟨⟨l.ge,a,b.Dw 1 a,?_⟩,?_⟩
 ·rw[Ap,Bw];refine Aj c ((Aa (fun k=>k=o) W).setCell (p:=zA o 1) (fun _=>rfl) a) fun q m h=>?_
  subst h;exact Ba c b (by decide) m
 ·refine(f.mono (S':=BO base o w) fun k _ n=>?_).setCell (p:=zA o 1) (fun _=>.inl rfl) _;obtain⟨i,g,j⟩:=Ic e n;exact .inr ⟨i,g,j⟩
theorem Ir {a b:Nat} {e:Int} (c:Cl w a b (zI e)):Calls Tryz.prog 121 #[.pointer (some (zA a b))] w (Rt (.bool (e==0)) fun w'=>w=w'):=by
 go_in;go_wp2;go_ret;exact⟨rfl,rfl⟩
end

section
variable {w w' W:Bc} {base o:Nat} {bs:List UInt8}
theorem mP:∀ k:Fin 256,bits BinOp.or IntKind.u8 (k.1:Int) 128=((UInt8.ofNat (k.1%128+128)).toNat:Int):=by decide +kernel
theorem iW {m:Int} (b:0<=m):bits BinOp.or IntKind.u8 (m%256) 128=((UInt8.ofNat (m.toNat%128+128)).toNat:Int):=by
 have a:=mP ⟨m.toNat%256,by omega⟩;simp only at a;rw[show((m.toNat%256:Nat):Int)=m%256 by omega,show m.toNat%256%128=m.toNat%128 by omega] at a;exact a
theorem Vw {m:Int} (a:0<=m) (b:m<128):m%256=((UInt8.ofNat m.toNat).toNat:Int):=by
 rw[UInt8.toNat_ofNat'];omega
theorem IQ:∀ (g n:Nat),n<128 ^ (g+1)->(BL n).length<=g+1
 |0,n,a=>by rw[JX (by simpa using a)];simp
 |g+1,n,a=>by
  by_cases b:n<128
  ·rw[JX b];simp
  ·rw[LZ b,BF];have:=IQ g (n/128) (by rw[Nat.div_lt_iff_lt_mul (by omega)];rw[Nat.pow_succ] at a;exact a);omega
theorem BS {n:Nat} (a:n<=4611686018427387904):(BL n).length<=9:=IQ 8 n (by rw[show 128 ^ (8+1)=9223372036854775808 from by decide];omega)
theorem El (i:BK w base o bs) (n:Int) (U:0<=n) (ae:n<=4611686018427387904) (ak:bs.length<=1000000) :
  Calls Tryz.prog 71 #[zP o,zI n] w (Rt (.tuple #[]) fun w'=>BK w' base o (bs++BL n.toNat)/\Am (BO base o w) w w'):=by
 obtain⟨N,G,K,L,M⟩:=info_parts KR;have ab:decide (n<0)=false:=dF;have ac:decide (4611686018427387904<n)=false:=dF;obtain⟨Z,d,an⟩:=i.row;have C:Cl w o 0 zO:=d.cell 0;have z:=Lh (Ir C);clear d an;go_in;go_wp2_with fail;refine z.out.mono ?_;rintro e am ⟨rfl,rfl⟩;clear z C;go_wp2;go_loopg [1] 10 fun gk Y wr=>∃ (c:Int) (a:List UInt8),Y=zI c/\0<=c/\c<128 ^ gk/\bs++BL n.toNat=a++BL c.toNat/\a.length+gk<=bs.length+10/\BK wr base o a/\Am (BO base o w) w wr
 case atStart=>exact⟨n,bs,rfl,U,by simp;omega,rfl,AY _,i,Aa _ _⟩
 case round =>
  obtain⟨c,a,rfl,H,q,F,ah,p,E⟩:=hrel;have A:=Lh F;have B:=Lh p;have ai:=p.ge;obtain⟨Z,d,an⟩:=p.row;obtain⟨f,g,rfl⟩:=BD an;have aa:Cl wr o 1 (.slice f a.length g):=d.cell 1;have al:=d.lt;have af:wr.heap.size≥base:=by omega
  clear F p;by_cases J:128<=c
  ·have Q:decide (128<=c)=true:=by rw[Bb];exact J
   obtain⟨b,l⟩:∃ b,b=UInt8.ofNat (c.toNat%128+128):=⟨_,rfl⟩
   have X:=iW H;rw[<- l] at X;have s:=Lh (show BL c.toNat=b::BL (c/128).toNat by rw[LZ (by omega),l,show(c/128).toNat=c.toNat/128 by omega]);have aj:gk≠0:=by rintro rfl;simp at q;omega
   have I:c/128<128 ^ (gk-1):=by
    obtain⟨D,rfl⟩:∃ D,gk=D+1:=⟨gk-1,by omega⟩
    rw[Int.pow_succ] at q;rw[Nat.add_sub_cancel];omega
   have O:=Lh I;clear I q l;go_wp2_with (at_builtin;refine wpList_append_lies _ rfl (.tmp 25) (.tmp 29) 84 rfl base 5 N _ 1 1 Tryz.underlying84 G K L M rfl (by omega) (.slice f a.length g) a.length _ rfl (an.alloc _) (zA wr.heap.size 0) 1 1 [.int .u8 (b.toNat:Int)] rfl rfl (World.news_of_block (cs:=#[.int .u8 (b.toNat:Int)]) (t:=5) (fr:=(0,0)) (heap_alloc_new wr _)) (by simp[Value.oneCell']) (by omega) (by unfold maxLen;omega) (by omega) (by simp;omega) (wr.heap.size+1) (by simp) ?_;intro T P h r y V W;have k:Am (fun m=>(Value.slice f a.length g).ownBlock=some m) wr h:=((Aa _ wr).alloc _).grown y fun m i _=>i;have j:AX h o 175 _:=d.Ab k (Ba an d (by decide));have R:Cl h o 1 (.slice f a.length g):=j.cell 1;have S:=j.frozen 1);obtain⟨u,v⟩:=B.out.more d an k (cs:=[b]) r;have x:=BO.AJ E v;go_roundg (gk-1)
   case measure=>omega
   case rel=>exact⟨c/128,a++[b],by go_num,by omega,O.out,by rw[A.out,s.out];simp,by rw[Ap,Cv];omega,u,x⟩
  ·have Q:decide (128<=c)=false:=by rw[Ag];exact J
   obtain⟨b,l⟩:∃ b:UInt8,c=(b.toNat:Int):=⟨UInt8.ofNat c.toNat,by have:=Vw H (by omega);omega⟩
   subst l;have ag:(b.toNat:Int)%256=(b.toNat:Int):=by omega
   have s:=Lh (show BL (b.toNat:Int).toNat=[b] by rw[Int.toNat_natCast,JX (by omega)];simp);clear q;go_wp2_with (at_builtin;refine wpList_append_lies _ rfl (.tmp 39) (.tmp 42) 84 rfl base 5 N _ 1 1 Tryz.underlying84 G K L M rfl (by omega) (.slice f a.length g) a.length _ rfl (an.alloc _) (zA wr.heap.size 0) 1 1 [.int .u8 (b.toNat:Int)] rfl rfl (World.news_of_block (cs:=#[.int .u8 (b.toNat:Int)]) (t:=5) (fr:=(0,0)) (heap_alloc_new wr _)) (by simp[Value.oneCell']) (by omega) (by unfold maxLen;omega) (by omega) (by simp;omega) (wr.heap.size+1) (by simp) ?_;intro T P h r y V W;have k:Am (fun m=>(Value.slice f a.length g).ownBlock=some m) wr h:=((Aa _ wr).alloc _).grown y fun m i _=>i;have j:AX h o 175 _:=d.Ab k (Ba an d (by decide));have R:Cl h o 1 (.slice f a.length g):=j.cell 1;have S:=j.frozen 1);obtain⟨u,v⟩:=B.out.more d an k (cs:=[b]) r;have x:=BO.AJ E v;go_end0;exact⟨rfl,by rw[A.out,s.out];exact u,x⟩
end

def GH (s:BB):List UInt8:=UInt8.ofNat (s.size/2)::s.data.toList
def IW (s:BB):List UInt8:=BL s.size++s.data.toList
def JY (l:List BB):List UInt8:=UInt8.ofNat l.length::l.flatMap GH
theorem P9:∀ {l:List BB} {n:Nat},(∀ s∈l,s.size<=16)->l.length<=n->(l.flatMap GH).length<=17*n
 |[],n,_,_=>by simp
 |s::t,n,a,b=>by
  rw[BF] at b;have d:=P9 (n:=n-1) (fun c hx=>a c (Dn _ hx)) (by omega);have e:=a s (by simp);rw[CY,Ap];have f:(GH s).length=s.size+1:=by unfold GH;rw[BF];rfl
  omega
section
variable {w w' W:Bc} {base o:Nat} {bs:List UInt8}
theorem Yk (f:BK w base o bs) (s:BB) (T:s.size<=1000000) (P:bs.length<=100000) :
  Calls Tryz.prog 198 #[zP o,.string s] w (Rt (.tuple #[]) fun w'=>BK w' base o (bs++IW s)/\Am (BO base o w) w w'):=by
 obtain⟨H,D,E,F,G⟩:=info_parts KR;have l:=Lh (El f (s.size:Int) (by omega) (by omega) (by omega));have R:=BS (n:=s.size) (by omega);clear f;go_in;go_wp2_with fail;refine l.out.mono ?_;rintro x i ⟨rfl,c,z⟩;clear l;rw[Int.toNat_natCast] at c;obtain⟨a,h⟩:∃ a,a=bs++BL s.size:=⟨_,rfl⟩
 have N:a.length<=200000:=by rw[h,Ap];omega
 rw[<- h] at c;have t:=Lh h;clear h;have u:=Lh c;have O:=c.ge;obtain⟨U,b,g⟩:=c.row;obtain⟨d,e,rfl⟩:=BD g;have v:Cl i o 0 zO:=b.cell 0;have J:Cl i o 1 (.slice d a.length e):=b.cell 1;have S:=b.lt;have m:=Lh (Ir v);go_wp2_with fail;refine m.out.mono ?_;rintro x W ⟨rfl,rfl⟩;clear m;go_wp2_with (at_builtin;refine Lib.wpList_append_own_string _ rfl (.tmp 16) (.tmp 17) 84 9 rfl base 5 H Tryz.underlying84 Tryz.underlying9 D E F G (.slice d a.length e) a.length _ rfl g s rfl (by unfold maxLen;omega) (by omega) (by omega) ?_;intro V j p C Q;obtain⟨I,K,rfl⟩:=BD p;have q:Am (fun r=>(Value.slice d a.length e).ownBlock=some r) i j:=(Aa _ i).grown C fun r f _=>f;have k:AX j o 175 _:=b.Ab q (Ba g b (by decide));have L:Cl j o 1 (.slice d a.length e):=k.cell 1;have M:=k.frozen 1);obtain⟨y,A⟩:=u.out.more b g q (cs:=s.data.toList) p;have B:=BO.AJ z A;go_end0;exact⟨rfl,by unfold IW;rw[<- BJ,<- t.out];exact y,B⟩
theorem Rs (d:BK w base o bs) (s:BB) (ai:CX s=true) (aw:s.size<=16) (au:bs.length<=100000) :
  Calls Tryz.prog 112 #[zP o,.string s] w (Rt (.tuple #[]) fun w'=>BK w' base o (bs++GH s)/\Am (BO base o w) w w'):=by
 obtain⟨O,I,L,M,N⟩:=info_parts KR;have ay:=Jk s w (by omega);rw[ai] at ay;have A:=Lh ay;clear ay;have S:=Lh d;clear d;go_in;go_wp2_with fail;refine A.out.mono ?_;rintro E h ⟨rfl,aj,J⟩;have x:Au w h:=by rw[J];exact(Aa _ w).drewN aj
 clear A J;have p:=S.out.AB x;have T:=Lh p;have ar:=p.ge;obtain⟨v,b,e⟩:=p.row;obtain⟨f,g,rfl⟩:=BD e;have C:Cl h o 0 zO:=b.cell 0;have D:Cl h o 1 (.slice f bs.length g):=b.cell 1;have V:=b.frozen 1;have K:=b.lt;have B:=Lh (Ir C);go_wp2_with fail;refine B.out.mono ?_;rintro E al ⟨rfl,rfl⟩;clear B p;obtain⟨a,y⟩:∃ a:UInt8,Cc s=(a.toNat:Int):=⟨UInt8.ofNat (s.size/2),by unfold Cc;rw[UInt8.toNat_ofNat'];omega⟩
 have ap:(a.toNat:Int)%256=(a.toNat:Int):=by have:=a.toNat_lt;omega
 have ao:IntKind.u8.wrap (a.toNat:Int)=(a.toNat:Int):=wrap_u8 _ (by omega) (by have:=a.toNat_lt;omega);have Q:=Lh y;have u:=fun W=>F5 s W (by unfold maxLen;omega)
 rw[y] at u;have P:=Lh u;clear u y;go_wp2_with fail;go_region_law (first|(refine step_append_lies _ (by rfl) (.tmp 19) (.tmp 23) 84 (by rfl) base 5 O _ 1 1 Tryz.underlying84 I L M N rfl (by omega) (.slice f bs.length g) bs.length _ (by rfl) ((e.alloc _).drew) (zA h.heap.size 0) 1 1 [.int .u8 (a.toNat:Int)] (by rfl) (by rfl) (World.news_of_block (cs:=#[.int .u8 (a.toNat:Int)]) (t:=5) (fr:=(0,0)) (heap_alloc_new h _)) (by simp[Value.oneCell']) (by omega) (by unfold maxLen;omega) (by omega) (by simp;omega) (h.heap.size+1) (by simp) ?_;intro Y X i m r ad ah;have k:Am (fun l=>(Value.slice f bs.length g).ownBlock=some l) h i:=(((Aa _ h).alloc _).drew).grown r fun l d _=>d;have j:AX i o 175 _:=b.Ab k (Ba e b (by decide));have F:Cl i o 1 (.slice f bs.length g):=j.cell 1;have G:=j.frozen 1)|(go_simp;go_at_call 133;refine(P.out _).mono ?_;rintro E al ⟨rfl,rfl⟩;go_wp2_with fail))
 all_goals
  obtain⟨n,H⟩:=T.out.more b e k (cs:=[a]) m;generalize i.setCell (zA o 1) (zS Y 0 (bs.length+1) X)=z at n H ⊢;obtain⟨c,q⟩:∃ c,c=bs++[a]:=⟨_,rfl⟩
  have aq:c.length<=200000:=by rw[q,Ap,Cv];omega
  rw[<- q] at n;have R:=Lh q;have U:=Lh n;clear q b e m r ad k j F G C D V K ah;obtain⟨v,b,e⟩:=n.row;obtain⟨f,g,rfl⟩:=BD e;have D:Cl z o 1 (.slice f c.length g):=b.cell 1;have K:=b.lt;clear n;go_wp2_with (at_builtin;refine Lib.wpList_append_own_string _ rfl (.tmp 31) (.tmp 32) 84 27 rfl base 5 O Tryz.underlying84 Tryz.underlying27 I L M N (.slice f c.length g) c.length _ rfl e s rfl (by unfold maxLen;omega) (by omega) (by omega) ?_;intro ax i m r av;obtain⟨am,an,rfl⟩:=BD m;have k:Am (fun l=>(Value.slice f c.length g).ownBlock=some l) z i:=(Aa _ z).grown r fun l d _=>d;have j:AX i o 175 _:=b.Ab k (Ba e b (by decide));have F:Cl i o 1 (.slice f c.length g):=j.cell 1;have G:=j.frozen 1);obtain⟨aa,ab⟩:=U.out.more b e k (cs:=s.data.toList) m;have ac:=(x.mono (S':=BO base o w) fun _ _ d=>d.elim).AJ (BO.AJ H ab) fun l ag af=>BO.back (x.mono fun _ _ d=>d.elim) af ag
  go_end0;refine⟨rfl,?_,ac⟩;have ae:a=UInt8.ofNat (s.size/2):=by
   have Z:=Q.out;unfold Cc at Z;apply UInt8.toNat_inj.1;rw[UInt8.toNat_ofNat'];omega
  unfold GH;rw[<- ae,show bs++a::s.data.toList=(bs++[a])++s.data.toList by simp,<- R.out];exact aa
theorem Us (d:BK w base o bs) (A:Option Addr) (c:Nat) (l:List BB) (I:D9 l=true) (K:∀ s∈l,s.size<=16) (H:Ay Value.string w w.heap.size 1 A l) (U:∀ b ay,A=some (zA b ay)->¬BO base o w b) (bc:bs.length<=50000) :
  Calls Tryz.prog 72 #[zP o,.slice A l.length c] w (Rt (.tuple #[]) fun w'=>BK w' base o (bs++JY l)/\Am (BO base o w) w w'):=by
 obtain⟨V,al,aq,ar,au⟩:=info_parts KR;obtain⟨bd,be,S⟩:=Cm I;have y:=Km A c l w (by omega) (fun s ap=>by have:=K s ap;omega) H;rw[I] at y;have N:=Lh y;have Z:=Lh S;have P:=Lh K;have aa:=Lh H;have ab:=Lh U;clear y I S K H U;have Y:=Lh d;clear d;go_in;go_wp2_with fail;refine N.out.mono ?_;rintro Q e ⟨rfl,ax,T⟩;have n:Au w e:=by rw[T];exact(Aa _ w).drewN ax
 clear N T;have q:=Y.out.AB n;have O:=Lh q;have ba:=q.ge;obtain⟨v,f,h⟩:=q.row;obtain⟨k,m,rfl⟩:=BD h;have B:Cl e o 0 zO:=f.cell 0;have ac:Cl e o 1 (.slice k bs.length m):=f.cell 1;have ao:=f.lt;have g:=Lh (Ir B);go_wp2_with fail;refine g.out.mono ?_;rintro Q bi ⟨rfl,rfl⟩;clear g q;have W:Hid (Value.int .u8 (l.length:Int)=bV (UInt8.ofNat l.length)):=by show _=_;unfold bV;rw[UInt8.toNat_ofNat'];congr 1;omega
 go_wp2_with (at_builtin;refine wpList_append_lies _ rfl (.tmp 22) (.tmp 26) 84 rfl base 5 V _ 1 1 Tryz.underlying84 al aq ar au rfl (by omega) (.slice k bs.length m) bs.length _ rfl (h.alloc _) (zA e.heap.size 0) 1 1 [.int .u8 (l.length:Int)] rfl rfl (World.news_of_block (cs:=#[.int .u8 (l.length:Int)]) (t:=5) (fr:=(0,0)) (heap_alloc_new e _)) (by simp[Value.oneCell']) (by omega) (by unfold maxLen;omega) (by omega) (by simp;omega) (e.heap.size+1) (by simp) ?_;intro ag ad bk z R ah an;have E:Am (fun L=>(Value.slice k bs.length m).ownBlock=some L) e bk:=((Aa _ e).alloc _).grown R fun L d _=>d;have bl:AX bk o 175 _:=f.Ab E (Ba h f (by decide));have ae:Cl bk o 1 (.slice k bs.length m):=bl.cell 1;have af:=bl.frozen 1);rw[W.out] at z;obtain⟨bj,r⟩:=O.out.more f h E (cs:=[UInt8.ofNat l.length]) z;have j:=(n.mono (S':=BO base o w) fun _ _ d=>d.elim).AJ r fun L am aj=>BO.back (n.mono fun _ _ d=>d.elim) aj am
 generalize bk.setCell (zA o 1) (zS ag 0 (bs.length+1) ad)=bg at bj j ⊢;clear f h z R ah E bl ae af B ac ao an r n O;go_loopg [32] l.length fun gk i wr=>∃ a:Nat,a+gk=l.length/\i=zI a/\BK wr base o (bs++[UInt8.ofNat l.length]++(l.take a).flatMap GH)/\Am (BO base o w) w wr
 case atStart=>exact⟨0,Bz _,rfl,by simpa using bj,j⟩
 case round =>
  clear bj j;obtain⟨a,bb,rfl,C,D⟩:=hrel;by_cases G:a<l.length
  ·obtain⟨b,M,rfl,ai,F⟩:=Ay.BV (fun _=>rfl) aa.out G;obtain⟨s,u⟩:∃ s,s=l[a]:=⟨_,rfl⟩
   have J:s∈l:=by rw[u];exact Br G
   rw[<- u] at F;have B:Cl wr b (M+a) (.string s):=(D.cell (p:=zA b (M+a)) ai (ab.out b M rfl)).trans F;have ak:((l.take a).flatMap GH).length<=17*a:=P9 (fun x hx=>P.out x (FP hx)) (by rw[BA];omega);have g:=Lh (Rs C s (Z.out s J) (P.out s J) (by rw[Ap,Ap,Cv];omega));have X:Hid ((l.take (a+1)).flatMap GH=(l.take a).flatMap GH++GH s):=by show(l.take (a+1)).flatMap GH=_;rw[AP G,<- u,Fw];simp
   have V:(0:Int)<=(a:Int):=by omega
   have aw:(a:Int)<(l.length:Int):=by omega
   clear u J F ak;go_wp2_with fail;refine g.out.mono ?_;rintro Q bh ⟨rfl,bj,r⟩;have j:=BO.AJ D r;clear g;go_wp2;go_roundg (gk-1)
   case measure=>omega
   case rel=>exact⟨a+1,by omega,by go_num,by rw[X.out,<- BJ];exact bj,j⟩
  ·have aw:¬(a:Int)<(l.length:Int):=by omega
   go_wp2;go_end0;refine⟨rfl,?_,D⟩;rw[Bt (by omega)] at C;unfold JY;rw[show bs++UInt8.ofNat l.length::l.flatMap GH=bs++[UInt8.ofNat l.length]++l.flatMap GH by simp];exact C
theorem Je (d:BK w base o bs):Calls Tryz.prog 73 #[zP o] w (Rt (.tuple #[.string (Dy bs),zO]) fun w'=>w=w'):=by
 obtain⟨k,a,b⟩:=d.row;obtain⟨e,g,rfl⟩:=BD b;have f:Cl w o 0 zO:=a.cell 0;have h:Cl w o 1 (.slice e bs.length g):=a.cell 1;have c:=Lh (Ir f);have j:=Y0 Tryz.underlying9 b;clear a b d;go_in;go_wp2_with fail;refine c.out.mono ?_;rintro i l ⟨rfl,rfl⟩;clear c;go_wp2;go_ret2;exact⟨rfl,rfl⟩
end

theorem gH:∀ k:Fin 256,bits BinOp.and IntKind.u8 (k.1:Int) 127=((k.1%128:Nat):Int):=by decide +kernel
theorem Zu (b:UInt8):bits BinOp.and IntKind.u8 (b.toNat:Int) 127=((b.toNat%128:Nat):Int):=gH ⟨b.toNat,b.toNat_lt⟩
theorem wrap_u64 (n:Int) (a : 0<=n) (b : n<18446744073709551616):IntKind.u64.wrap n=n:=by
 rw[show IntKind.u64.wrap n=n%18446744073709551616 by simp[IntKind.wrap,IntKind.bits,IntKind.signed]];omega
theorem Zp {a x j:Nat} (d:j<9) (ha:a<2 ^ (7*j)) (hx:x<128):bits BinOp.or IntKind.u64 (a:Int) (IntKind.u64.wrap (IntKind.u64.wrap ((x:Nat):Int)*2 ^ (7*j)))=((a+x*2 ^ (7*j):Nat):Int):=by
 have c:2 ^ (7*j)<=72057594037927936:=by
  calc 2 ^ (7*j)<=2 ^ (7*8):=Nat.pow_le_pow_right (by omega) (by omega)
   _=72057594037927936:=by decide
 have e:x*2 ^ (7*j)<=127*72057594037927936:=Nat.mul_le_mul (by omega) c;rw[wrap_u64 (x:Int) (by omega) (by omega)];rw[show((x:Nat):Int)*2 ^ (7*j)=((x*2 ^ (7*j):Nat):Int) by simp];rw[wrap_u64 _ (by omega) (by omega),bits_or_u64_nat _ _ (by omega) (by omega)]
 congr 1
 have b:=Nat.two_pow_add_eq_or_of_lt ha x;rw[Nat.mul_comm x,Nat.or_comm,<- b,Nat.add_comm]
theorem LY (m:Nat):∃ b t,BL m=b::t/\b.toNat%128=m%128/\(m<128->b.toNat=m/\t=[])/\(¬m<128->128<=b.toNat/\t=BL (m/128)):=by
 by_cases a:m<128
 ·refine⟨_,_,JX a,?_,fun _=>⟨?_,rfl⟩,fun c=>Bv a c⟩
  ·rw[UInt8.toNat_ofNat'];omega
  ·rw[UInt8.toNat_ofNat'];omega
 ·refine⟨_,_,LZ a,?_,fun c=>Bv c a,fun _=>⟨?_,rfl⟩⟩
  ·rw[UInt8.toNat_ofNat'];omega
  ·rw[UInt8.toNat_ofNat'];omega
theorem VZ (s:BB) (n:Nat) (rest:List UInt8) (w:Bc) (J:s.data.toList=BL n++rest) (ae:n<=4611686018427387904) :
  Calls Tryz.prog 166 #[.string s] w (Rt (.tuple #[zI n,zI (BL n).length]) fun w'=>w=w'):=by
 have O:=Lh J;clear J;go_in;go_wp2;go_loopg [4,5] 9 fun gk P W wr=>∃ (f a b:Nat),P= .int .u64 f/\W=zI a/\a+gk=9/\w=wr/\f<2 ^ (7*a)/\n=f+b*2 ^ (7*a)/\s.data.toList.drop a=BL b++rest/\(BL n).length=a+(BL b).length/\(0<a->0<b)/\b<2 ^ (7*gk)
 case atStart=>exact⟨0,0,n,rfl,rfl,rfl,rfl,by simp,by simp,by simpa using O.out,by simp,fun Z=>by omega,by rw[show 2 ^ (7*9)=9223372036854775808 from by decide];omega⟩
 case round =>
  obtain⟨f,a,b,rfl,rfl,ac,rfl,ha,L,l,K,aj,r⟩:=hrel;obtain⟨c,t,k,E,F,G⟩:=LY b;have ad:a<s.size:=by
   have d:=Bu List.length l;rw[Cb,k] at d;simp only[Df,BF,Ap] at d;have:s.data.toList.length=s.size:=rfl;omega
  have H:s[a]=c:=by
   have d:s.data.toList[a]?= some c:=by
    have o:(s.data.toList.drop a)[0]?= some c:=by rw[l,k];rfl
    rwa [List.getElem?_drop,F7] at o
   obtain⟨B,p⟩:=AC.1 d;exact p
  have ab:gk≠0:=by
   rintro rfl;simp at r;have:=aj (by omega);omega
  have af:(a:Int)<(s.size:Int):=by omega
  have ag:decide ((a:Int)<9)=true:=by rw[Bb];omega
  have N:=Lh H;have hs1:=Zp (x:=c.toNat%128) (by omega) ha (Nat.mod_lt _ (by omega));have v:=Lh hs1;have g:=Lh (Bf ha (Bf L (Bf l (Bf K (Bf aj r)))));have i:=Lh (Bf k (Bf E (Bf F G)));clear hs1 H ha L l K aj r k E F G;go_upto_region 7 with(fail)
  rw[N.out,Zu,v.out];generalize D:f+c.toNat%128*2 ^ (7*a)=j;have h:=Lh D;clear D;generalize hq:(c.toNat:Int)=e;have m:=Lh hq;clear hq;by_cases q:b<128
  ·obtain⟨I,ht⟩:=i.out.2.2.1 q;have Q:decide (128<=e)=false:=by rw[Ag,<- m.out];omega
   have V:j=n:=by
    rw[<- h.out,g.out.2.1,I,Nat.mod_eq_of_lt q]
   have u:Hid ((BL n).length=a+1):=by show(BL n).length=a+1;rw[g.out.2.2.2.1,i.out.1,ht];rfl
   subst V;have X:decide (4611686018427387904<(j:Int))=false:=by rw[Ag];omega
   have ah:(j:Int)<=4611686018427387904:=by omega
   clear h v ht;by_cases U:0<a
   ·have R:decide ((0:Int)<(a:Int))=true:=by rw[Bb];omega
    have Y:(e==0)=false:=by rw[Cs,<- m.out];have:=g.out.2.2.2.2.1 U;omega
    go_wp2;go_ret2;exact⟨by rw[u.out];rfl,rfl⟩
   ·have R:decide ((0:Int)<(a:Int))=false:=by rw[Ag];omega
    go_wp2;go_ret2;exact⟨by rw[u.out];rfl,rfl⟩
  ·obtain⟨I,ht⟩:=i.out.2.2.2 q;have Q:decide (128<=e)=true:=by rw[Bb,<- m.out];omega
   have y:=Lh ht;clear ht;go_wp2;go_roundg (gk-1)
   case measure=>omega
   case rel =>
    obtain⟨d,o,B,p,aa,C⟩:=g.out;obtain⟨A,S,_,_⟩:=i.out;have M:2 ^ (7*(a+1))=128*2 ^ (7*a):=by rw[Nat.mul_add,Nat.pow_add];omega
    have hq:2 ^ (7*gk)=128*2 ^ (7*(gk-1)):=by
     obtain⟨z,rfl⟩:∃ z,gk=z+1:=⟨gk-1,by omega⟩
     rw[Nat.mul_add,Nat.pow_add,Nat.add_sub_cancel];omega
    have hx:c.toNat%128*2 ^ (7*a)<=127*2 ^ (7*a):=Fj _ (by omega);have T:b=c.toNat%128+128*(b/128):=by rw[S];omega
    refine⟨j,a+1,b/128,rfl,by go_num,by omega,rfl,?_,?_,?_,?_,fun _=>by omega,?_⟩
    ·rw[M,<- h.out];generalize 2 ^ (7*a)=e at d hx ⊢;omega
    ·rw[M,<- h.out,o];generalize 2 ^ (7*a)=e;rw[Nat.add_assoc,<- Nat.mul_assoc,<- EK,Nat.mul_comm (b/128) 128,<- T]
    ·rw[<- FO,B,A,y.out];rfl
    ·rw[p,A,y.out,BF];omega
    ·rw[hq] at C;generalize 2 ^ (7*(gk-1))=e at C ⊢;omega

def BP (W:Bc) (p:Nat) (rest:List UInt8):Prop:=∃ (a:BB) (b:Nat),AX W p 281 #[zO,.string a,zI b]/\a.data.toList.drop b=rest/\b<=a.size/\a.size<=1000000
section
variable {w w' W:Bc} {p:Nat} {rest:List UInt8}
theorem BP.AB (b:BP w p rest) (e:Au w w'):BP w' p rest:=by
 obtain⟨f,a,d,c⟩:=b;exact⟨f,a,d.Ab e id,c⟩
theorem BP.Ab {S:Nat->Prop} (b:BP w p rest) (e:Am S w w') (f:¬S p):BP w' p rest:=by
 obtain⟨g,a,d,c⟩:=b;exact⟨g,a,d.Ab e f,c⟩
theorem BP.lt (a:BP w p rest):p<w.heap.size:=by
 obtain⟨e,c,b,d⟩:=a;exact b.lt
theorem extract_drop (s:BB) (a:Nat):(s.extract a s.size).data.toList=s.data.toList.drop a:=by
 rw[IK,Bt (show s.data.toList.length<=s.size from AY _)]
theorem P6 {s:BB} {a:Nat} {xs b:List UInt8} (c:s.data.toList.drop a=xs++b) (ha:a<=s.size):a+xs.length+b.length=s.size/\s.data.toList.drop (a+xs.length)=b:=by
 have d:=Bu List.length c;rw[Cb,Ap] at d;have:s.data.toList.length=s.size:=rfl;refine⟨by omega,?_⟩;rw[<- FO,c,List.drop_left]
theorem extract_mk {s:BB} {a:Nat} {xs c:List UInt8} (b:s.data.toList.drop a=xs++c):s.extract a (a+xs.length)=Dy xs:=by
 apply Kt;rw[IK,Nn,List.drop_take,b,Nat.add_sub_cancel_left,List.take_left]
theorem XY {s:BB} (a:CX s=true):s.size%2=0:=by
 unfold CX at a;have b:I5 s=false:=by
  rcases c:I5 s with _|_
  ·rfl
  ·simp[c] at a
 unfold I5 at b;have:=of_decide_eq_false b;omega
theorem Dp (n:Int) (a : -9223372036854775808<=n) (b : n<=9223372036854775807):IntKind.i64.wrap n=n:=by
 simp only[IntKind.wrap,IntKind.bits,IntKind.signed];simp;omega
theorem JO (s:BB) (w:Bc) (c:s.size<=1000000):Calls Tryz.prog 124 #[.string s] w (Rt (zP w.heap.size) fun w'=>BP w' w.heap.size s.data.toList/\Au w w'):=by
 have a:Hid (BP (w.alloc (.cells #[zO,.string s,zO] 281)) w.heap.size s.data.toList):=⟨s,0,AX.new w _ _,by simp,by omega,c⟩
 have b:Hid (Au w (w.alloc (.cells #[zO,.string s,zO] 281))):=Lh ((Aa _ w).alloc _);go_in;go_wp2;go_ret;exact⟨rfl,a.out,b.out⟩
theorem Ej {n:Nat} {most:Int} (x:BP w p (BL n++rest)) (r:n<=4611686018427387904) (K:(n:Int)<=most) :
  Calls Tryz.prog 125 #[zP p,zI most] w (Rt (zI n) fun w'=>BP w' p rest/\Am (fun k=>k=p) w w'):=by
 obtain⟨c,b,d,i,ha,E⟩:=x;have f:Cl w p 0 zO:=d.cell 0;have m:Cl w p 1 (.string c):=d.cell 1;have o:Cl w p 2 (zI b):=d.cell 2;have H:=d.frozen 2;have s:=Lh fun(W:Bc) B=>@Ir W p 0 0 B
 have j:=Lh fun W=>VZ (c.extract b c.size) n rest W (by rw[extract_drop];exact i) r
 obtain⟨g,h⟩:=P6 i ha;have D:(BL n).length≠0:=by
  obtain⟨G,N,A,_⟩:=LY n;rw[A];simp
 have C:=BS r;have t:=Lh d;have l:=Lh (Bf g h);generalize (BL n).length=e at j l D C g h;have I:((e:Int)==0)=false:=by rw[Cs];omega
 have J:decide (most<(n:Int))=false:=by rw[Ag];omega
 have z:b+e<=c.size:=by omega
 have L:(0:Int)<=(b:Int):=by omega
 have M:(b:Int)<=(c.size:Int):=by omega
 clear d i g h;go_in;go_wp2_with fail;refine(s.out _ f).mono ?_;rintro v F ⟨rfl,rfl⟩;go_wp2;refine GZ (fun W=>Cl W p 0 zO/\Cl W p 1 (.string c)/\Cl W p 2 (zI b)) ⟨f,m,o⟩ fun a=>?_
 refine hq 0 13 a ?_;refine hq 1 14 a ?_;refine hq 2 15 a ?_;refine hq 3 16 a ?_;refine hq 4 17 a ?_;refine hq 5 18 a ?_;refine hq 6 19 a ?_;refine hq 7 20 a ?_;refine hq 8 21 a ?_;refine Gg 9 fun u q=>?_
 go_simp;go_at_call 166;refine(j.out _).mono ?_;rintro v F ⟨rfl,rfl⟩;go_wp2;refine q.out _ _ (⟨f,m,o⟩) fun a=>?_
 clear q u;refine hq 10 12 a ?_;refine hq 11 23 a ?_;refine hq 12 24 a ?_;refine hq 13 5 a ?_;refine hq 14 6 a ?_;refine zw ?_;go_wp2;go_ret;have y:Am (fun k=>k=p) w (w.drew.setCell (zA p 2) (zI ((b:Int)+(e:Int)))):=((Aa (fun k=>k=p) w).drew).setCell (p:=zA p 2) (fun _=>rfl) _;exact⟨rfl,⟨c,b+e,(AX.drew t.out).Dw 2 (zI ((b:Int)+(e:Int))),l.out.2,z,E⟩,y⟩
theorem NN {xs:List UInt8} (u:BP w p (xs++rest)) :
  Calls Tryz.prog 202 #[zP p,zI xs.length] w (Rt (.string (Dy xs)) fun w'=>BP w' p rest/\Am (fun k=>k=p) w w'):=by
 obtain⟨d,b,e,l,ha,z⟩:=u;have f:Cl w p 0 zO:=e.cell 0;have h:Cl w p 1 (.string d):=e.cell 1;have i:Cl w p 2 (zI b):=e.cell 2;have B:=e.frozen 2;have m:=Lh fun(W:Bc) y=>@Ir W p 0 0 y
 obtain⟨n,j⟩:=P6 l ha;have g:=Lh (extract_mk l);have q:=Lh e;generalize Dy xs=J at g ⊢;generalize xs.length=c at n j g ⊢;have r:=Lh j;have D:IntKind.i64.wrap ((d.size:Int)-(b:Int))=((d.size-b:Nat):Int):=by rw[Dp _ (by omega) (by omega)];omega
 have E:IntKind.i64.wrap ((b:Int)+(c:Int))=((b+c:Nat):Int):=by rw[Dp _ (by omega) (by omega)];omega
 have C:decide (((d.size-b:Nat):Int)<(c:Int))=false:=by rw[Ag];omega
 have x:b+c<=d.size:=by omega
 have F:(0:Int)<=(b:Int):=by omega
 have G:(b:Int)<=(d.size:Int):=by omega
 have H:(b:Int)+(c:Int)<=(d.size:Int):=by omega
 have I:(b:Int)<=(b:Int)+(c:Int):=by omega
 clear e l n j;go_in;go_wp2;refine GZ (fun W=>Cl W p 0 zO/\Cl W p 1 (.string d)/\Cl W p 2 (zI b)) ⟨f,h,i⟩ fun a=>?_
 refine hq 0 6 a ?_;refine hq 1 7 a ?_;refine hq 2 8 a ?_;refine Gg 3 fun s o=>?_
 go_simp;go_at_call 121;refine(m.out w.drew f).mono ?_;rintro t A ⟨rfl,rfl⟩;go_wp2;refine o.out _ _ (⟨f,h,i⟩) fun a=>?_
 clear o s;refine hq 4 10 a ?_;refine hq 5 11 a ?_;refine hq 6 12 a ?_;refine hq 7 13 a ?_;refine hq 8 14 a ?_;refine hq 9 15 a ?_;refine hq 10 16 a ?_;refine hq 11 17 a ?_;refine hq 12 18 a ?_;refine hq 13 19 a ?_;refine hq 14 20 a ?_;refine hq 15 21 a ?_;refine hq 16 22 a ?_;refine hq 17 23 a ?_;refine zw ?_;go_wp2_with fail;refine(m.out w.drew f).mono ?_;rintro t A ⟨rfl,rfl⟩;go_wp2;refine GZ (fun W=>Cl W p 0 zO/\Cl W p 1 (.string d)/\Cl W p 2 (zI b)) ⟨f,h,i⟩ fun a=>?_
 refine hq 0 33 a ?_;refine hq 1 34 a ?_;refine hq 2 35 a ?_;refine hq 3 36 a ?_;refine hq 4 37 a ?_;refine hq 5 38 a ?_;refine hq 6 39 a ?_;refine hq 7 40 a ?_;refine hq 8 41 a ?_;refine hq 9 42 a ?_;refine hq 10 43 a ?_;refine hq 11 44 a ?_;refine hq 12 45 a ?_;refine hq 13 46 a ?_;refine hq 14 47 a ?_;refine hq 15 5 a ?_;refine zw ?_;rw[show((b:Int)+(c:Int)).toNat=b+c by omega,g.out];go_wp2;go_ret;have v:Am (fun k=>k=p) w (w.drew.drew.setCell (zA p 2) (zI ((b:Int)+(c:Int)))):=(((Aa (fun k=>k=p) w).drew).drew).setCell (p:=zA p 2) (fun _=>rfl) _;exact⟨rfl,⟨d,b+c,(AX.drew (AX.drew q.out)).Dw 2 (zI ((b:Int)+(c:Int))),r.out,x,z⟩,v⟩
theorem BP.cell0 (a:BP w p rest):Cl w p 0 zO:=by
 obtain⟨d,c,b,_⟩:=a;exact b.cell 0
theorem PI {b:UInt8} {most:Int} (a:BP w p (b::rest)) (q:1<=b.toNat) (r:(b.toNat:Int)<=most) :
  Calls Tryz.prog 167 #[zP p,zI most] w (Rt (zI b.toNat) fun w'=>BP w' p rest/\Am (fun k=>k=p) w w'):=by
 have c:=Lh (NN (xs:=[b]) (rest:=rest) a);have n:decide ((b.toNat:Int)<1)=false:=by rw[Ag];omega
 have o:decide (most<(b.toNat:Int))=false:=by rw[Ag];omega
 have e:=Lh fun(W:Bc) i=>@Ir W p 0 0 i
 have s:=b.toNat_lt;clear a;go_in;go_wp2_with fail;refine c.out.mono ?_;rintro g m ⟨rfl,d,h⟩;clear c;have f:=Lh d;go_wp2_with fail;refine(e.out m d.cell0).mono ?_;rintro g u ⟨rfl,rfl⟩;have l:(Dy [b]).size=1:=rfl;have j:∀ a,(Dy [b])[0]'a=b:=fun _=>rfl
 generalize hq:Dy [b]=t at l j ⊢;clear hq;go_wp2;go_ret;exact⟨rfl,f.out,h⟩
theorem XN {x:BB} {most:Int} (a:BP w p (IW x++rest)) (hx:x.size<=100000) (q:(x.size:Int)<=most) :
  Calls Tryz.prog 210 #[zP p,zI most] w (Rt (.string x) fun w'=>BP w' p rest/\Am (fun k=>k=p) w w'):=by
 have e:BP w p (BL x.size++(x.data.toList++rest)):=by unfold IW at a;rwa [BJ] at a
 have c:=Lh (Ej e (by omega) q);have s:x.data.toList.length=x.size:=rfl;clear a e;go_in;go_wp2_with fail;refine c.out.mono ?_;rintro l t ⟨rfl,g,n⟩;clear c;have j:=Lh g;obtain⟨i,u,f,h,ha,r⟩:=g;have v:Cl t p 1 (.string i):=f.cell 1;have y:decide (i.size<x.size)=false:=by
  rw[Ag];have:=(P6 h ha).1;omega
 have b:=NN j.out;rw[s,show Dy x.data.toList=x from rfl] at b;have d:=Lh b;clear f h ha r b;go_wp2_with fail;refine d.out.mono ?_;rintro l z ⟨rfl,m,o⟩;clear d;go_wp2;go_ret;exact⟨rfl,m,n.AJ o fun _ _ a=>a⟩
theorem Re {x:BB} (a:BP w p (GH x++rest)) (e:CX x=true) (hx:x.size<=16) :
  Calls Tryz.prog 168 #[zP p] w (Rt (.string x) fun w'=>BP w' p rest/\Am (fun k=>k=p) w w'):=by
 have E:=Uc e;have C:=XY e;have o:(UInt8.ofNat (x.size/2)).toNat=x.size/2:=by rw[UInt8.toNat_ofNat'];omega
 have d:=PI (most:=8) (rest:=x.data.toList++rest) (b:=UInt8.ofNat (x.size/2)) a (by omega) (by omega);rw[o] at d;have z:x.data.toList.length=x.size:=rfl;have f:=fun W=>Jk x W (by omega)
 rw[e] at f;have t:=Lh f;obtain⟨c,q⟩:∃ c,x.size=2*c:=⟨x.size/2,by omega⟩
 rw[show x.size/2=c by omega] at d;have h:=Lh d;have j:=Lh q;clear a d f o e q;go_in;go_wp2_with fail;refine h.out.mono ?_;rintro l F ⟨rfl,m,v⟩;clear h;have g:=NN m;rw[z,show Dy x.data.toList=x from rfl,show((x.size:Nat):Int)=2*(c:Int) by rw[j.out];omega] at g;have i:=Lh g;have D:c<=8:=by have:=j.out;omega
 clear g m;go_wp2_with fail;refine i.out.mono ?_;rintro l s ⟨rfl,u,y⟩;clear i;go_wp2_with fail;refine(t.out _).mono ?_;rintro l B ⟨rfl,A,r⟩;have n:Au s B:=by rw[r];exact(Aa _ s).drewN A
 clear r;go_wp2;go_ret;exact⟨rfl,u.AB n,(v.AJ y fun _ _ a=>a).AJ n fun _ _ a=>a.elim⟩
theorem XE (k:BP w p []):Calls Tryz.prog 169 #[zP p] w (Rt zO (Au w)):=by
 obtain⟨b,c,d,g,ha,n⟩:=k;have l:c=b.size:=by
  have f:=Bu List.length g;rw[Cb] at f;have:b.data.toList.length=b.size:=rfl;simp only[CV] at f;omega
 have e:Cl w p 0 zO:=d.cell 0;have i:Cl w p 1 (.string b):=d.cell 1;have j:Cl w p 2 (zI c):=d.cell 2;have h:=Lh fun(W:Bc) m=>@Ir W p 0 0 m
 have q:IntKind.i64.wrap ((b.size:Int)-(c:Int))=0:=by rw[Dp _ (by omega) (by omega)];omega
 clear d g ha n l;go_in;go_wp2_with fail;refine(h.out _ e).mono ?_;rintro o r ⟨rfl,rfl⟩;go_wp2;refine GZ (fun W=>Cl W p 0 zO/\Cl W p 1 (.string b)/\Cl W p 2 (zI c)) ⟨e,i,j⟩ fun a=>?_
 refine hq 0 8 a ?_;refine hq 1 9 a ?_;refine hq 2 10 a ?_;refine hq 3 11 a ?_;refine hq 4 12 a ?_;refine hq 5 13 a ?_;refine hq 6 14 a ?_;refine hq 7 15 a ?_;refine hq 8 16 a ?_;refine hq 9 17 a ?_;refine hq 10 2 a ?_;refine zw ?_;go_wp2;go_ret;exact⟨rfl,(Aa _ w).drew⟩
theorem Jb (a:BP w p []):Calls Tryz.prog 127 #[zP p] w (Rt zO (Au w)):=by
 have b:=Lh (XE a);have d:=Lh a;clear a;go_in;go_wp2_with fail;refine b.out.mono ?_;rintro f g ⟨rfl,c⟩;clear b;have e:=(d.out.AB c).cell0;go_wp2;go_ret;exact⟨rfl,c⟩
end

end Go.Proofs.YtcjcndnjpedniaaGreat
