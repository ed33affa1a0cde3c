import Derived.Test.YtjjdeakghpmpfaaGreatDoorK7
set_option maxRecDepth 100000
set_option maxHeartbeats 8000000
set_option linter.all false
open Go.Value renaming int->U,slice->Y,bool->a9,agg->a5,pointer->ci,tuple->dl,iface->em
open Go.IntKind renaming i64->O
open Go.Obj renaming cells->ac
open Go.Ending renaming returned->be
open Go renaming Addr->aiI,Calls->UL,Oper->aku,TypeId->EV,Value->rl,World->ns,bodyPost_end->akv,wpList->aja
open Go.IntKind renaming i64->AS,u8->ajU
open List renaming length_append->aiw,length_map->ajA,nil_append->ajM,replicate->an,replicate_succ->akl
namespace Go.Proofs
abbrev Dr:=@Int.tmod_eq_emod_of_nonneg
def Cf{p:Prop}(h:p:=by unfold kt;rw[k.span]):p:=h
def xE{p:Prop}(h:p:=by rw[hb];exact IntWalk.i64_in _ ⟨by omega,by omega⟩):p:=h
def Cy{p:Prop}(h:p:=by injection e with e;exact e.symm):p:=h
def lW{p:Prop}(h:p:=by injection e):p:=h
def xF{p:Prop}(h:p:=by show hi%256=hi;omega):p:=h
def Cg{p:Prop}(h:p:=by show W0.heap.size<=o;omega):p:=h
def J9{p:Prop}(h:p:=by
  clear tw f9 k1 k2 k3 oJ hlen hp;go_wp2;go_roundw;case rel=>exact⟨j+1,i8,aa,aH,by rw[K1.out];simp[List.replicate_succ],UA.out,K3.out.set Cg _⟩
  case measure=>simp[intOf]):p:=h
def mG{p:Prop}(h:p:=by show w.heap.size≠g;omega):p:=h
def CZ{p:Prop}(h:p:=by have:=h1.le;show W0.heap.size<=g;omega):p:=h
def xV{p:Prop}(h:p:=by have:=H5.out.le;show W0.heap.size<=g;omega):p:=h
def Ka{p:Prop}(h:p:=by
  refine HT.out.mono ?_;rintro r w5⟨rfl,⟨IR,e5⟩,q5⟩;go_wp2;go_roundw;case rel=>exact⟨k+1,_,IR,aa,aH,e5,q5,UB.out⟩
  case measure=>simp[intOf];omega):p:=h
def Kd{p:Prop}(h:p:=by
  clear y1 y2;go_wp2;refine HT.out.mono ?_;rintro r w5⟨rfl,⟨IR,e5⟩,q5⟩;go_wp2;go_roundw;case rel=>exact⟨j+1,IR,aa,aH,e5,q5⟩
  case measure=>simp[intOf];omega):p:=h
end Go.Proofs
namespace Go.Proofs.Q0
open Go.Proofs.Tryz
variable{k n c B g h cc p:Nat}{xs:List Int}{w W0:ns}{x:Int}{A:Option aiI}{ov:rl}
section
open Go.RowKit Go.WideShapes Go.ChangeShapes
section
variable{t:EV}{s n B g c:Nat}{w:ns}{xs:List Int}
def az.range(h:az t s w B (Y (some ⟨g,0,none⟩) n c) n xs)(o k:Nat)(b:o+k<=n*s):w.rangeAt g o ((sub xs o k).map (Value.int .i64)):=λj v hv=>by
 have f:=h.1
 have hj:j<k:=by have:=(pd.1 hv).1;rw[ajA,bP aa] at this;exact this
 have:=h.cell (o+j) aa;exact J1
variable{P:Program}{ops:Array aku}{rest:List aku}{o:aku}{a:Act}{Q':Exit->Act->ns->Prop}
def C0(b:o.guard=none){ty:EV}{x:Operand}(f:o.op=.load ty x){g:Nat}(off:Nat)(i:a.eval x=ci (some ⟨g,off,none⟩)){xs:List Int}(h:az t s w B (Y (some ⟨g,0,none⟩) n c) n xs)(j:off+k<=n*s){d:TypeDesc}
  (hu:P.underlying ty=some d)(hd:d.isRow=true)(hi:(P.info? ty).map (·.size)=some k)
  (hK:aja P ops Q' rest (a.put o.dst (a5 (arr (sub xs off k)))) w):aja P ops Q' (o::rest) a w:=
 wpList_load_mid b ty x f g off i _ d (h.range off k j) hu hd (by rw[ajA,bP (by have:=h.1;omega)];exact hi) hK
def kW(xs:List Int)(o:Nat)(h:o+2<=xs.length):sub xs o 2=[xs[o]?.getD 0,xs[o+1]?.getD 0]:=by
 refine mQ (by rw[bP h];rfl) λi hi=>?_;rw[bP h] at hi;rw[fP _ _ _ _ hi];rcases i with _|_|i
 ·rfl
 ·rfl
 ·omega
end
def ze:(Gz.prog.info? 154).map (·.size)=some 2:=aC
def ZW(e:aZ)(c:Nat)(b:Int):(ib e c b).out.length<=e.out.length+2:=by
 have hm:(ig e c b).out=e.out:=by unfold ig;split<;>rfl
 have i:∀f:aZ,(ll f).out.length=f.out.length+1:=λf=>pA f;unfold ib jv;split
 ·grind
 ·simp_all
structure RE(xs:List Int)(k:Nat)(e:aZ):Prop where
 run:e=nk (xs.take (k*2)) iQ
 ok:cO e
 span:16777216<=e.span
 len:e.out.length<=k*2
def RE.zero(xs:List Int):RE xs 0 iQ:=⟨by simp[nk],QJ.1,QJ.2,by simp[iQ]⟩
def abv(h:k*2+2<=xs.length):xs.take ((k+1)*2)=xs.take (k*2)++[xs[k*2]?.getD 0,xs[k*2+1]?.getD 0]:=by have e:=List.take_add (l:=xs) (i:=k*2) (j:=2);rw[show(k+1)*2=k*2+2 by omega,e];congr 1;exact kW xs (k*2) h
def RE.succ{e:aZ}(h:RE xs k e)(i:xs.length=n*2)(j:k<n)(h1:0<=xs[k*2]?.getD 0)(l:xs[k*2]?.getD 0<=39):
  RE xs (k+1) (ib e (xs[k*2]?.getD 0).toNat (xs[k*2+1]?.getD 0)):=by
 obtain⟨b,f⟩:=h.ok.step h.span (xs[k*2]?.getD 0).toNat (xs[k*2+1]?.getD 0) aa;refine⟨?_,b,f,?_⟩
 ·rw[abv aa,OC k _ _ _ _ (by rw[List.length_take];omega),<-h.run]
 ·have:=ZW e (xs[k*2]?.getD 0).toNat (xs[k*2+1]?.getD 0);have:=h.len;omega
def RE.full{e:aZ}(h:RE xs n e)(b:xs.length=n*2):e=nk xs iQ:=by rw[h.run,List.take_of_length_le aa]
def mq:Nat->aZ->aZ
 |0,e=>e
 |k+1,e=>bT (mq k e)
def zW:∀(j:Nat){e:aZ},cO e->cO (mq j e)
 |0,_,h=>h
 |j+1,_,h=>(zW j h).bT
def zx:∀(j:Nat)(e:aZ),(mq j e).out.length=e.out.length+j
 |0,_=>rfl
 |j+1,e=>by rw[mq,pA,zx j e];omega
def YM:(Gz.prog.info? 5).map (λi=>(i.zero,i.size,i.bytes))=some (some (.int .u8 0),1,1):=aC
def Wk{v:rl}{ops:Array aku}{rest:List aku}{o:aku}{a:Act}{Q':Exit->Act->ns->Prop}(i:o.guard=none){x y:Operand}{st:EV}(r:o.op=.call {callee:=.builtin .append,args:=#[x,y],argTypes:=#[st,st]})
  (hu:Gz.prog.underlying st=some (.slice 5))(u:a.eval x=v)(b:aK w B v n xs)(ad:aiI)(f:List Int){m:Nat}(z:a.eval y=Y (some ad) m c)(C:f.length=m)
  (E:n+m<=1000000000)(l:B<=w.heap.size)(hc:∀j,j<f.length->w.cell? (ad.add j)=some (.int .u8 (f[j]?.getD 0)))
  (h:∀v' w',aK w' B v' (n+m) (xs++f)->w.grownBy w' v.ownBlock->aja Gz.prog ops Q' rest (a.put o.dst v') w'):aja Gz.prog ops Q' (o::rest) a w:=by
 obtain⟨i0,hi,q,hz1,hz2⟩:=info_parts YM;refine wpList_append_own _ i x y st r B 5 i0 _ 1 1 hu hi q hz1 hz2 rfl aq v n _ u b.2 ad m c (f.map (Value.int .u8)) z (by rw[ajA];omega) ?_ ?_ ?_ ?_ l ?_
 ·grind
 ·exact CU
 ·unfold maxLen;omega
 ·omega
 ·intro v' w' h1 D _;exact h v' w' ⟨by rw[aiw,b.1,C],by simpa using h1⟩ D
end
section
open Go.RowKit Go.WideShapes Go.ChangeShapes
def wy(d:ay)(A:Option aiI)(n c p h cc:Nat):Array rl:=#[U O d.code,U O d.span,Y A n c,U O (p:Int),Y (some ⟨h,0,none⟩) 40 cc]
structure DS(w:ns)(g h:Nat)(d:ay)(xs:List Int)(A:Option aiI)(c cc B p:Nat):Prop where
 blk:ak w g 112 (wy d A xs.length c p h cc)
 dy:Own w B (Y (some ⟨h,0,none⟩) 40 cc) 40 d.ch
 rd:bB w B A xs
 rest:d.rest=xs.drop p
 le:B<=g
 ne:g≠h
 j3:bytes xs
 len:xs.length<=c/\c<=maxLen
section
variable{w w':ns}{g h c cc B p:Nat}{d:ay}{xs:List Int}{A:Option aiI}
def DS.lt(k:DS w g h d xs A c cc B p):g<w.heap.size:=k.blk.lt
def DS.aT(k:DS w g h d xs A c cc B p):B<=h/\h<w.heap.size:=k.dy.block
def DS.q(k:DS w g h d xs A c cc B p)(hq:Q w w'):DS w' g h d xs A c cc B p:=
 ⟨k.blk.q hq,k.dy.q hq,k.rd.q hq (aJ k.le (Nat.le_of_lt k.blk.lt)),k.rest,k.le,k.ne,k.j3,k.len⟩
def QL{j:List Int}{S:List Nat}(k:Own w B (Y (some ⟨h,0,none⟩) n cc) n j)(e:av S w w')(m:h∉S):Own w' B (Y (some ⟨h,0,none⟩) n cc) n j:=by
 refine⟨k.1,?_⟩;obtain⟨h1,l⟩:=k.2;refine⟨h1,?_⟩;rcases l with l|⟨g,b,f,q,u,v,r⟩
 ·simp_all
 ·refine .inr ⟨g,b,f,q,u,?_,r⟩;have:g=h:=eg;subst this;rcases de g w.heap.size with i|y
  ·exact(e.block g i m).trans v
  ·simp_all
def DS.aw{S:List Nat}(k:DS w g h d xs A c cc B p)(e:av S w w')(b:∀x,x∈S->B<=x)(f:g∉S)(i:h∉S):DS w' g h d xs A c cc B p:=
 ⟨k.blk.aw e f,QL k.dy e i,k.rd.aw e (aJ k.le (Nat.le_of_lt k.blk.lt)) b,k.rest,k.le,k.ne,k.j3,k.len⟩
def DS.code(k:DS w g h d xs A c cc B p):w.cell? ⟨g,0,none⟩=some (U O d.code):=k.blk.cell 0
def DS.span(k:DS w g h d xs A c cc B p):w.cell? ⟨g,1,none⟩=some (U O d.span):=k.blk.cell 1
def DS.UC(k:DS w g h d xs A c cc B p):w.cell? ⟨g,2,none⟩=some (Y A xs.length c):=k.blk.cell 2
def DS.pos(k:DS w g h d xs A c cc B p):w.cell? ⟨g,3,none⟩=some (U O (p:Int)):=k.blk.cell 3
def DS.kP(k:DS w g h d xs A c cc B p):w.cell? ⟨g,4,none⟩=some (Y (some ⟨h,0,none⟩) 40 cc):=k.blk.cell 4
def DS.free(k:DS w g h d xs A c cc B p)(i:Nat):w.frozen? ⟨g,i,none⟩=false:=k.blk.free i
def DS.jl(k:DS w g h d xs A c cc B p)(i:Nat)(hi:i<40):w.cell? ⟨h,i,none⟩=some (U O (d.ch[i]?.getD 0)):=k.dy.at i hi
def DS.Aq(k:DS w g h d xs A c cc B p)(i:Nat):w.frozen? ⟨h,i,none⟩=false:=k.dy.free i
def u5(r:bB w B A xs){q:aiI}(hq:B<=q.block){u:rl}:bB (w.setCell q u) B A xs:=r.cM λb o f=>nN (a:=⟨b,o,none⟩) (iI w _ u b aa)
def zX{b:List Int}(k:Own w B (Y (some ⟨h,0,none⟩) n cc) n b){q:aiI}(hq:h≠q.block){u:rl}:Own (w.setCell q u) B (Y (some ⟨h,0,none⟩) n cc) n b:=
 QL k ((av.refl [q.block] w).set (.inl aj) u) (by simp[hq])
def DS.iO(k:DS w g h d xs A c cc B p)(x:Int):DS (w.setCell ⟨g,0,none⟩ (U O x)) g h {d with code:=x} xs A c cc B p:=
 ⟨k.blk.set 0 _,zX k.dy λe=>k.ne e.symm,u5 k.rd k.le,k.rest,k.le,k.ne,k.j3,k.len⟩
def DS.fc(k:DS w g h d xs A c cc B p)(x:Int):DS (w.setCell ⟨g,1,none⟩ (U O x)) g h {d with span:=x} xs A c cc B p:=
 ⟨k.blk.set 1 _,zX k.dy λe=>k.ne e.symm,u5 k.rd k.le,k.rest,k.le,k.ne,k.j3,k.len⟩
def DS.step(k:DS w g h d xs A c cc B p)(x:Int):DS ((w.setCell ⟨g,3,none⟩ (U O ((p:Int)+1))).setCell ⟨g,0,none⟩ (U O x)) g h {d with code:=x,rest:=d.rest.tail} xs A c cc B (p+1):=by have b:=(k.blk.set 3 (U O ((p:Int)+1))).set 0 (U O x);refine⟨b,zX (zX k.dy λe=>k.ne e.symm) λe=>k.ne e.symm,u5 (u5 k.rd k.le) k.le,?_,k.le,k.ne,k.j3,k.len⟩;rw[k.rest,List.tail_drop]
def DS.lG(k:DS w g h d xs A c cc B p)(i:Nat)(x:Int):DS (w.setCell ⟨h,i,none⟩ (U O x)) g h {d with ch:=d.ch.set i x} xs A c cc B p:=
 ⟨k.blk.aN k.ne _,k.dy.set i x,u5 k.rd k.aT.1,k.rest,k.le,k.ne,k.j3,k.len⟩
end
def ZX{d:ay}(h:d.rest=[]):cR d={d with code:=d.code%16777216*256,rest:=d.rest.tail}:=by rw[zc h,h];rfl
def DW{d:ay}{r:List Int}(h:d.rest=x::r)(h0:0<=x)(h1:x<=255):cR d={d with code:=d.code%16777216*256+x,rest:=d.rest.tail}:=by rw[Nw h,h,u64_in aa aa];rfl
def next(w:ns)(g h c cc B p:Nat)(d:ay)(xs:List Int)(A:Option aiI)(k:DS w g h d xs A c cc B p)(h0:0<=d.code)(h1:d.code<=4294967295)(J:p<=1000000000):
  UL Gz.prog 76 #[ci (some ⟨g,0,none⟩)] w λe w'=>e=be (dl #[])/\DS w' g h (cR d) xs A c cc B (p+1)/\av [g] w w':=by
 have j:=k.len;unfold maxLen at j;have D:d.code.tmod 16777216=d.code%16777216:=Dr h0;obtain⟨m,hm⟩:∃m,d.code%16777216=m:=⟨_,rfl⟩;have L:0<=m/\m<=16777215:=aa;rw[hm] at D;by_cases f:p<xs.length
 ·have l:d.rest=xs[p]::xs.drop (p+1):=by rw[k.rest,List.drop_eq_getElem_cons f]
  have r:=k.j3 xs[p] (rk f);have i:=af (DW l r.1 r.2);obtain⟨b,o,rfl,E,hc⟩:=k.rd aa;have z:=hc p f;have C:xs[p]?.getD 0=xs[p]:=by rw[List.getElem?_eq_getElem f];rfl
  rw[C] at z;rw[hm] at i;generalize xs[p]=x at r z i;have c0:=k.code;have F:=k.UC;have G:=k.pos;have H:=k.free;have K:=af k;have I:=af hm;have u:(p:Int)<(xs.length:Int):=aa;have y:(p:Int)+1<10000000000:=aa;clear k hc l C hm;go_enter Gz.gf func76,ntmps76;go_wp2
  go_quiet(fail)
  go_wp2
  go_quiet(fail)
  go_wp2;refine akv (v:=dl #[]) (by simp[results,results76,go_sem]) rfl ⟨rfl,?_,(((av.refl [g] w).drewN _).set (.inl aj) _).set (.inl aj) _⟩;rw[i.out];exact(K.out.q ((Q.refl w).drewN _)).step (m*256+x)
 ·have l:d.rest=[]:=by rw[k.rest,List.drop_of_length_le aa]
  have i:=af (ZX l);rw[hm] at i;have c0:=k.code;have F:=k.UC;have G:=k.pos;have H:=k.free;have K:=af k;have I:=af hm;have u:¬(p:Int)<(xs.length:Int):=aa;have y:(p:Int)+1<10000000000:=aa;clear k l hm;go_enter Gz.gf func76,ntmps76;go_wp2
  go_quiet(fail)
  go_wp2;refine akv (v:=dl #[]) (by simp[results,results76,go_sem]) rfl ⟨rfl,?_,(((av.refl [g] w).drewN _).set (.inl aj) _).set (.inl aj) _⟩;rw[i.out];exact(K.out.q ((Q.refl w).drewN _)).step (m*256)
end
section
open Go.RowKit Go.WideShapes Go.ChangeShapes
def OD:UL Gz.prog 75 #[] w λe w'=>∃g c,e=be (Y (some ⟨g,0,none⟩) 40 c)/\Own w' w.heap.size (Y (some ⟨g,0,none⟩) 40 c) 40 oG/\Q w w':=by
 have m:=Own.jT w w.heap.size (au _);have q:=(Q.refl w).alloc (ac #[] 3);go_enter Gz.gf func75,ntmps75;go_wp2;go_loopw[1,2] (λv i wr=>∃k:Nat,k<=40/\i=U O k/\Own wr w.heap.size v k (an k 2048)/\Q w wr) (λ_ i _=>40-(intOf i).toNat)
 case atStart=>exact⟨0,dC _,rfl,m,q⟩
 case round=>
  obtain⟨k,z,rfl,gt,i6⟩:=hrel;by_cases r:k<40
  ·have l:(k:Int)<40:=by omega
   have u:=i6.size;go_wp2_with((at_builtin;refine tX rfl rfl w w.heap.size rfl (gt.alloc _) ⟨_,0,none⟩ rfl qW qW qW (i6.alloc _) (uy _ _ _ _) ?_;intro C w' f j y _;skip));go_roundw;case rel=>exact⟨k+1,aa,aH,by have h:=f;rw[show an (k+1) (2048:Int)=an k 2048++[2048] from List.replicate_succ'];exact h,j⟩
   case measure=>exact bg
  ·have b:k=40:=by omega
   subst b;exact J7
def aex(j:bB w B A xs)(F:xs.length=n)(hc:n<=c/\c<=maxLen)(l:B<=w.heap.size)(G:bytes xs):
  UL Gz.prog 52 #[Y A n c] w λe w'=>∃g h cc,e=be (ci (some ⟨g,0,none⟩))/\w.heap.size<=g/\w.heap.size<=h/\DS w' g h (eu xs) xs A c cc B 4/\Q w w':=by
 go_enter Gz.gf func52,ntmps52;go_wp2;refine(OD).mono ?_;rintro e f⟨h,cc,rfl,z,q1⟩;go_wp2;have m:((f.alloc (ac #[U O 0,U O 4294967295,Y A n c,U O 0,Y (some ⟨h,0,none⟩) 40 cc] 112)):ns)=(f.alloc (ac (wy (e7 xs) A xs.length c 0 h cc) 112)):=by rw[F];rfl
 rw[m];have u:=q1.size;have v:=z.block
 have y:DS (f.alloc (ac (wy (e7 xs) A xs.length c 0 h cc) 112)) f.heap.size h (e7 xs) xs A c cc B 0:=
  ⟨ak.new _ _ _,(z.alloc _).mono l,(j.q q1 l).alloc (aJ l q1.size) _,rfl,aJ l q1.size,aa,G,aa⟩
 have C:Q w (f.alloc (ac (wy (e7 xs) A xs.length c 0 h cc) 112)):=q1.alloc _;clear m;generalize f.alloc (ac (wy (e7 xs) A xs.length c 0 h cc) 112)=X at y C⊢;obtain⟨g,H⟩:∃g,f.heap.size=g:=⟨_,rfl⟩;rw[H] at y u v⊢;clear H j q1 l F z;go_loopw[4] (λi wr=>∃(k:Nat)(d:ay),k<=4/\i=U O k/\Hid (DS wr g h d xs A c cc B k/\Q w wr/\(k=0->d=e7 xs)/\(k=1->d=cR (e7 xs))/\(k=2->d=cR (cR (e7 xs)))/\(k=3->d=cR (cR (cR (e7 xs))))/\(k=4->d=eu xs)/\0<=d.code/\d.code<=4294967295)) (λi _=>4-(intOf i).toNat)
 case atStart=>exact⟨0,e7 xs,aa,rfl,y,C,λ_=>rfl,λh=>by omega,λh=>by omega,λh=>by omega,λh=>by omega,by show(0:Int)<=0;omega,by show(0:Int)<=_;omega⟩
 case round=>
  obtain⟨k,d,Z,rfl,hK⟩:=hrel;obtain⟨D,I,m,J,K,L,M,R,S⟩:=hK.out;clear hK y C;by_cases T:k<4
  ·have N:(k:Int)<4:=by omega
   have V:=next wr g h c cc B k d xs A D R S aa
   have b:0<=(cR d).code/\(cR d).code<=4294967295:=by
    cases hr:d.rest with
    |nil=>rw[zc hr];show 0<=d.code%16777216*256/\d.code%16777216*256<=_;omega
    |cons x r=>
     have j:=G x (by
      have:x∈d.rest:=tW;rw[D.rest] at this;exact List.mem_of_mem_drop this)
     rw[DW hr j.1 j.2];show 0<=d.code%16777216*256+x/\d.code%16777216*256+x<=_;omega
   go_wp2;refine V.mono ?_;rintro e w3⟨rfl,d3,W⟩;go_wp2;go_roundw
   case rel=>
    refine⟨k+1,cR d,aa,aH,d3,W.toQ I aA,λh=>by omega,λh=>?_,λh=>?_,λh=>?_,λh=>?_,b.1,b.2⟩
    ·rw[m aa]
    ·rw[J aa]
    ·rw[K aa]
    ·rw[L aa];rfl
   case measure=>exact bg
  ·have E:k=4:=by omega
   subst E;have e:=M rfl;subst e;clear m J K L M;go_wp2;go_ret;exact⟨g,h,cc,rfl,u,v.1,D,I⟩
end
section
open Go.RowKit Go.WideShapes Go.ChangeShapes
def DS.iP{d:ay}(k:DS w g h d xs A c cc B p):kt w g=(16777216-d.span).toNat:=Cf
def yX{d:ay}(f:bytes d.rest)(h0:0<=d.code):(cR d).code<=4294967295:=by
 cases hr:d.rest with
 |nil=>rw[zc hr];show d.code%16777216*256<=_;omega
 |cons x r=>have b:=f x tW;rw[DW hr b.1 b.2];show d.code%16777216*256+x<=_;omega
def DS.bytes{d:ay}(k:DS w g h d xs A c cc B p):bytes d.rest:=λx b=>k.j3 x (by rw[k.rest] at b;exact List.mem_of_mem_drop b)
def DS.ac8{d:ay}(k:DS w g h d xs A c cc B p)(h0:0<=d.code):(feed d).code<=4294967295:=yX k.bytes h0
def SU{p:Prop}(h:p:=by have j:(dM d k).code<=4294967295:=(by rw[PP.out];(try rw[Do.out]);first|exact Ii|(show d.code-bb<=4294967295;omega));go_wp2;go_loopw[] (λwr=>∃(e:ay)(p':Nat),Hid (DS wr g h e xs A c cc B p'/\av [g,h] w wr/\wm e/\e.code<=4294967295/\ji e=bJ d k/\(p'=p\/(p'=p+1/\1048576<=e.span)\/(p'=p+2/\16777216<=e.span)))) λwr=>kt wr g;(case atStart=>exact⟨_,p,h4,x3,HM.out,j,rfl,.inl rfl⟩);(case round=>obtain⟨e,p',hK⟩:=hrel;obtain⟨b,l,f,m,r,u⟩:=hK.out;have L:=b.span;have D:=f.lo;have M:=f.hi;have q:=af b.iP;by_cases E:e.span<16777216;(have N:=af b;have F:=af l;have v:=af f;have Q:=af m;have G:=af u;have H:=af (next wr g h c cc B p' e xs A b f.c0 m (by omega));have I:=af (b.ac8 f.c0);clear b l f m hK u;go_wp2;refine H.out.mono ?_;rintro R S⟨rfl,i,y⟩;have f1:=i.span;have f2:=i.free;rw[show(cR e).span=e.span from rfl] at f1;have z:=af i;have J:=af (F.out.aw y λg C=>.inl (by simp at C;simp[C]));clear i y;have wc:IntKind.i64.wrap (e.span*256)=e.span*256:=aB _ ⟨by omega,by omega⟩;go_wp2;go_roundw;(case rel=>exact⟨feed e,p'+1,z.out.fc (e.span*256),J.out.set (.inl (by simp)) _,⟨by show 4096<=e.span*256;omega,by show e.span*256<=_;omega,(jg).1,(jg).2,v.out.len,v.out.ch⟩,I.out,(MX D E).trans r,by have T:=G.out;show p'+1=p\/(p'+1=p+1/\1048576<=e.span*256)\/(p'+1=p+2/\16777216<=e.span*256);omega⟩);(case measure=>rw[q.out,(z.out.fc (e.span*256)).iP];show(16777216-e.span*256).toNat<(16777216-e.span).toNat;omega));(have K:=(Nz (by omega)).symm.trans r;subst K;go_wp2;go_ret;exact⟨rfl,⟨p',by omega,b⟩,l⟩))):p:=h
def get(w:ns)(g h c cc B p k:Nat)(d:ay)(xs:List Int)(A:Option aiI)(hd:DS w g h d xs A c cc B p)(ok:bQ d)(Ii:d.code<=4294967295)(z:k<40)(hp:p<=900000000):
  UL Gz.prog 77 #[ci (some ⟨g,0,none⟩),U O (k:Int)] w λe w'=>e=be (U O (cP d k))/\(∃p',p'<=p+2/\DS w' g h (bJ d k) xs A c cc B p')/\av [g,h] w w':=by
 obtain⟨K,L⟩:=ok.ch k z;have c0:=hd.code;have G:=hd.span;have y:=hd.kP;have l:=hd.jl k z;have hS:=ok.lo;have Z:=ok.hi;have hC:=ok.c0;obtain⟨I,J,V,W⟩:=kX ok.lo ok.hi K L;have N:=ok.mA k z;have m:dS d k=d.span/4096*d.ch[k]?.getD 0:=rfl;have lm:(k:Int)<40:=aa;have q1:d.span.tdiv 4096=d.span/4096:=jF aa;have X:=hd.dy.dD;by_cases f:d.code<dS d k
 ·have i:cP d k=0:=by unfold cP;rw[if_pos f]
  have b:dM d k={d with span:=dS d k,ch:=d.ch.set k (bj (d.ch[k]?.getD 0) 0)}:=by unfold dM;rw[if_pos f]
  rw[i];have r:=af (MA (d.ch[k]?.getD 0) · K L);have HP:Hid (d.ch[k]?.getD 0=d.ch[k]?.getD 0):=rfl;generalize u:d.ch[k]?.getD 0=pp at c0 G y l K L I J f b r m;obtain⟨q,hq⟩:∃q,d.span/4096=q:=⟨_,rfl⟩;rw[hq] at I J V W q1 m;obtain⟨bb,hb⟩:∃bb,q*pp=bb:=⟨_,rfl⟩;rw[hb] at I J m;have w1:AS.wrap (q*pp)=bb:=xE;have M:wrap64 (q*pp)=bb:=xA;have H:=af hd;have HM:=af N;have PP:=af b;have v:=af u;rw[m] at f;have Do:=af m;clear hd N b m i u hb ok hq HP;go_enter Gz.gf func77,ntmps77;go_wp2
  go_quiet(fail)
  have h1:=H.out.q ((Q.refl w).drewN nq);have C:av [g,h] w (w.drewN nq):=(av.refl _ _).drewN _;generalize w.drewN nq=w1 at h1 C⊢;have c0:=h1.code;have G:=h1.span;have y:=h1.kP;have D:=h1.free;have l:=h1.jl k z;rw[v.out] at l;have E:=h1.Aq;go_wp2;have j:=h1.fc bb;have F:=C.set (p:=⟨g,1,none⟩) (.inl aj) (U O bb);generalize w1.setCell ⟨g,1,none⟩ (U O bb)=M at j F⊢;clear h1 C c0 G y D l E;have y:=j.kP;have l:=j.jl k z;rw[show d.ch[k]?.getD 0=pp from v.out] at l;have E:=j.Aq;have D:=j.free;have R:=af j;have S:=af F;clear j F;go_region_with (go_at_call 114;refine(r.out _).mono ?_;rintro e w'⟨rfl,rfl⟩);all_goals(have h3:=(R.out.lG k (bj pp 0)).q ((Q.refl _).drew);have x3:=(S.out.set (p:=⟨h,k,none⟩) (.inl aj) (U O (bj pp 0))).drew;generalize(M.setCell ⟨h,k,none⟩ (U O (bj pp 0))).drew=T at h3 x3⊢;have h4:DS T g h (dM d k) xs A c cc B p:=qV;clear y l E D;exact SU)
 ·have i:cP d k=1:=by unfold cP;rw[if_neg f]
  have b:dM d k={d with code:=d.code-dS d k,span:=d.span-dS d k,ch:=d.ch.set k (bj (d.ch[k]?.getD 0) 1)}:=by unfold dM;rw[if_neg f]
  rw[i];have r:=af (MB (d.ch[k]?.getD 0) · K L);generalize u:d.ch[k]?.getD 0=pp at c0 G y l K L I J f b r m;obtain⟨q,hq⟩:∃q,d.span/4096=q:=⟨_,rfl⟩;rw[hq] at I J V W q1 m;obtain⟨bb,hb⟩:∃bb,q*pp=bb:=⟨_,rfl⟩;rw[hb] at I J m;have w1:AS.wrap (q*pp)=bb:=xE;have M:wrap64 (q*pp)=bb:=xA;have H:=af hd;have HM:=af N;have PP:=af b;have v:=af u;rw[m] at f;have Do:=af m;clear hd N b m i u hb ok hq;go_enter Gz.gf func77,ntmps77;go_wp2
  go_quiet(fail)
  have h1:=H.out.q ((Q.refl w).drewN nq);have C:av [g,h] w (w.drewN nq):=(av.refl _ _).drewN _;generalize w.drewN nq=w1 at h1 C⊢;have c0:=h1.code;have G:=h1.span;have y:=h1.kP;have D:=h1.free;have l:=h1.jl k z;rw[v.out] at l;have E:=h1.Aq;go_wp2;have j:=(h1.iO (d.code-bb)).fc (d.span-bb);have F:=(C.set (p:=⟨g,0,none⟩) (.inl aj) (U O (d.code-bb))).set (p:=⟨g,1,none⟩) (.inl aj) (U O (d.span-bb));generalize(w1.setCell ⟨g,0,none⟩ (U O (d.code-bb))).setCell ⟨g,1,none⟩ (U O (d.span-bb))=M at j F⊢;clear h1 C c0 G y D l E;have y:=j.kP;have l:=j.jl k z;rw[show d.ch[k]?.getD 0=pp from v.out] at l;have E:=j.Aq;have D:=j.free;have R:=af j;have S:=af F;clear j F;go_region_with (go_at_call 114;refine(r.out _).mono ?_;rintro e w'⟨rfl,rfl⟩);all_goals(have h3:=(R.out.lG k (bj pp 1)).q ((Q.refl _).drew);have x3:=(S.out.set (p:=⟨h,k,none⟩) (.inl aj) (U O (bj pp 1))).drew;generalize(M.setCell ⟨h,k,none⟩ (U O (bj pp 1))).drew=T at h3 x3⊢;have h4:DS T g h (dM d k) xs A c cc B p:=qV;clear y l E D;exact SU)
end
section
open Go.RowKit Go.WideShapes Go.ChangeShapes
def zf:(Gz.prog.info? 5).map (λi=>(i.zero,i.size,i.bytes))=some (some (.int .u8 0),1,1):=aC
structure ES(w:ns)(g h:Nat)(e:aZ)(B cc:Nat)(ov:rl):Prop where
 blk:ak w g 160 #[U O e.low,U O e.span,ov,Y (some ⟨h,0,none⟩) 40 cc]
 out:aK w B ov e.out.length e.out
 dy:Own w B (Y (some ⟨h,0,none⟩) 40 cc) 40 e.ch
 ne:g≠h
 og:ov.ownBlock≠some g
 oh:ov.ownBlock≠some h
 le:B<=g
def abw(j:Nat){r:List Int}(b:x≠255):jV (an j 255++x::r)=an j 0++(x+1)::r:=by induction j with|zero=>rw[List.replicate_zero,ajM,List.replicate_zero,ajM,jV,if_neg b]|succ j f=>rw[akl,List.cons_append,jV,if_pos rfl,f];rfl
def QM(j:Nat)(pre:List Int)(b:x≠255):fV (pre++[x]++an j 255)=pre++[x+1]++an j 0:=by unfold fV;rw[List.reverse_append,List.reverse_append,List.reverse_replicate,List.reverse_singleton,List.singleton_append,abw j b];simp
section
variable{w w':ns}{g h B cc:Nat}{e:aZ}{ov:rl}
def ES.q(k:ES w g h e B cc ov)(hq:Q w w'):ES w' g h e B cc ov:=⟨k.blk.q hq,k.out.q hq,k.dy.q hq,k.ne,k.og,k.oh,k.le⟩
def ES.low(k:ES w g h e B cc ov):w.cell? ⟨g,0,none⟩=some (U O e.low):=k.blk.cell 0
def ES.span(k:ES w g h e B cc ov):w.cell? ⟨g,1,none⟩=some (U O e.span):=k.blk.cell 1
def ES.lK(k:ES w g h e B cc ov):w.cell? ⟨g,2,none⟩=some ov:=k.blk.cell 2
def ES.kP(k:ES w g h e B cc ov):w.cell? ⟨g,3,none⟩=some (Y (some ⟨h,0,none⟩) 40 cc):=k.blk.cell 3
def ES.free(k:ES w g h e B cc ov)(i:Nat):w.frozen? ⟨g,i,none⟩=false:=k.blk.free i
def jJ(w:ns)(p:aiI)(u:rl):w.grownBy (w.setCell p u) (some p.block):=⟨rfl,rfl,rfl,by simp[World.setCell],λi hi b=>iI w p u i λe=>b nI⟩
def ES.iO(k:ES w g h e B cc ov)(x:Int):ES (w.setCell ⟨g,0,none⟩ (U O x)) g h {e with low:=x} B cc ov:=
 ⟨k.blk.set 0 _,k.out.other (jJ w ⟨g,0,none⟩ _) (.inr k.og),k.dy.other (jJ w ⟨g,0,none⟩ _) (.inr λe=>k.ne Cy),k.ne,k.og,k.oh,k.le⟩
def ES.fc(k:ES w g h e B cc ov)(x:Int):ES (w.setCell ⟨g,1,none⟩ (U O x)) g h {e with span:=x} B cc ov:=
 ⟨k.blk.set 1 _,k.out.other (jJ w ⟨g,1,none⟩ _) (.inr k.og),k.dy.other (jJ w ⟨g,1,none⟩ _) (.inr λe=>k.ne Cy),k.ne,k.og,k.oh,k.le⟩
def ES.vL{o:Nat}(k:ES w g h {e with out:=xs} B cc (Y (some ⟨o,0,none⟩) n c))(b:n=xs.length)(i:Nat)(x:Int):ES (w.setCell ⟨o,i,none⟩ (.int .u8 x)) g h {e with out:=xs.set i x} B cc (Y (some ⟨o,0,none⟩) n c):=by subst b;have f:g≠o:=λe=>k.og (by rw[e];rfl);have j:h≠o:=λe=>k.oh (by rw[e];rfl);refine⟨k.blk.aN f _,?_,k.dy.other (jJ w ⟨o,i,none⟩ _) (.inr λe=>j lW),k.ne,k.og,k.oh,k.le⟩;have:=k.out.set i x;rw[List.length_set];exact this
end
def ES.appended{W i:ns}{b j:Nat}{e:aZ}(C:e.out.length=n)(k:ES w g h e B cc ov)(hq:Q w W)
  (l:i.ownsRow B 5 1 (Y (some ⟨b,0,none⟩) (n+1) j) (n+1) (e.out.map (.int .u8)++[.int .u8 x]))(m:W.grownBy i ov.ownBlock)(f:ov.ownBlock=some b\/b=W.heap.size):
  ES (i.setCell ⟨g,2,none⟩ (Y (some ⟨b,0,none⟩) (n+1) j)) g h {e with out:=e.out++[x]} B cc (Y (some ⟨b,0,none⟩) (n+1) j):=by
 subst C;have D:=k.blk.lt;have E:=k.dy.block.2;have F:=hq.size
 have r:b≠g:=by
  rcases f with u|u
  ·intro v;exact k.og (by rw[u,v])
  ·omega
 have y:b≠h:=by
  rcases f with u|u
  ·intro v;exact k.oh (by rw[u,v])
  ·omega
 have G:=(k.blk.q hq).grown m λe=>k.og e.symm;have z:=(k.dy.q hq).other m (.inr λe=>k.oh e.symm);have H:aK i B (Y (some ⟨b,0,none⟩) (e.out.length+1) j) (e.out.length+1) (e.out++[x]):=⟨aj,by simpa using l⟩;refine⟨G.set 2 _,?_,z.other (jJ i ⟨g,2,none⟩ _) (.inr λe=>k.ne Cy),k.ne,λe=>r lW,λe=>y lW,k.le⟩;have:=H.other (jJ i ⟨g,2,none⟩ (Y (some ⟨b,0,none⟩) (e.out.length+1) j)) (.inr λe=>r lW);rw[aiw];exact this
def TA{p:Prop}(h:p:=by go_region_law (refine step_append_lies _ rfl _ _ 52 rfl B 5 i0 (.int .u8 0) 1 1 (Gz.gu underlying52) vM rt hz1 hz2 rfl (by decide) (.slice AA nn cA) nn (e.out.map (.int .u8)) (by rfl) (by first|exact(KO.out.alloc _).2|exact(KO.out.alloc _).drew.2|exact(KO.out.drew.alloc _).2) ⟨w.heap.size,0,none⟩ 1 1 [.int .u8 hi] (by rfl) (by rfl) (cell_one_new _ _ _) (λu hu=>by simp at hu;rw[hu];rfl) (by decide) (by unfold maxLen;omega) (by omega) (by simp;omega) _ rfl ?_;intro D E F f b i l;have m:=af (ES.appended wA.out K.out (by exact(by repeat(first|exact Q.refl _|assumption|refine Q.drewN ?_ _|refine Q.drew ?_|refine Q.alloc ?_ _|refine Q.trans ?_ (by assumption)|refine Q.set ?_ (by first|exact au _|omega|(simp;done)|(simp;omega)) _))) f b i);have j:=(K.out.blk.q (by exact(by repeat(first|exact Q.refl _|assumption|refine Q.drewN ?_ _|refine Q.drew ?_|refine Q.alloc ?_ _|refine Q.trans ?_ (by assumption)|refine Q.set ?_ (by first|exact au _|omega|(simp;done)|(simp;omega)) _)))).grown b λe=>K.out.og e.symm;have r:=j.cell;have y:=j.free;have z:=af (Q.grown (QQ.out.trans (by exact(by repeat(first|exact Q.refl _|assumption|refine Q.drewN ?_ _|refine Q.drew ?_|refine Q.alloc ?_ _|refine Q.trans ?_ (by assumption)|refine Q.set ?_ (by first|exact au _|omega|(simp;done)|(simp;omega)) _)))) b λk C=>aJ hB (K.out.out.2.lt k C).1);clear f b i j);all_goals(go_wp2;refine bodyPost_end (v:=.tuple #[]) (by simp[results,results123,go_sem]) rfl ⟨rfl,⟨_,by rw[HP.out];exact m.out.iO (lo*256)⟩,(z.out.set (by have:=K.out.le;show W0.heap.size<=g;omega) _).set (by have:=K.out.le;show W0.heap.size<=g;omega) _⟩)):p:=h
def aey{e:aZ}(k:ES w g h e B cc ov)(ok:cO e)(q:Q W0 w)(hB:W0.heap.size<=B)(G:e.low<4294967296)(v:e.out.length<=1000000):
  UL Gz.prog 123 #[ci (some ⟨g,0,none⟩)] w λr w'=>r=be (dl #[])/\(∃l,ES w' g h (bT e) B cc l)/\Q W0 w':=by
 have f:bT e={e with low:=e.low%16777216*256,out:=e.out++[e.low/16777216%256]}:=by unfold bT;rw[if_neg (by omega)]
 have u:=ok.l0;have c0:=k.low;have y:=k.lK;have C:e.low.tdiv 16777216=e.low/16777216:=jF u;have D:e.low.tmod 16777216=e.low%16777216:=Dr u;obtain⟨hi,i⟩:∃z,e.low/16777216=z:=⟨_,rfl⟩;obtain⟨lo,j⟩:∃z,e.low%16777216=z:=⟨_,rfl⟩;have H:0<=hi/\hi<=255:=aa;have I:0<=lo/\lo<=16777215:=aa;rw[i] at C f;rw[j] at D f;rw[show hi%256=hi by omega] at f;have J:ajU.wrap hi=hi:=xF;have wi:AS.wrap hi=hi:=aB _ ⟨aa,aa⟩;obtain⟨AA,cA,rfl⟩:=k.out.form;obtain⟨nn,b⟩:∃z,e.out.length=z:=⟨_,rfl⟩;have m:=k.out;rw[b] at m y v k;have K:=af k;have HP:=af f;have QQ:=af q;have E:B<=w.heap.size:=by have:=k.le;have:=k.blk.lt;omega
 obtain⟨i0,vM,rt,hz1,hz2⟩:=info_parts zf;have F:=k.blk.lt;have wA:=af b;have KO:=af m;clear k f q i j m b;go_enter Gz.gf func123,ntmps123;go_wp2;exact TA
def aez{e:aZ}(k:ES w g h e B cc ov)(ok:cO e)(q:Q W0 w)(hB:W0.heap.size<=B)(hl:4294967296<=e.low)(hn:e.out.length<=1000000):
  UL Gz.prog 123 #[ci (some ⟨g,0,none⟩)] w λr w'=>r=be (dl #[])/\(∃Ij,ES w' g h (bT e) B cc Ij)/\Q W0 w':=by
 have M:bT e={e with low:=(e.low-4294967296)%16777216*256,out:=fV e.out++[(e.low-4294967296)/16777216%256]}:=by unfold bT;rw[if_pos (by omega)]
 have l0:=ok.l0;have l1:=ok.l1;have agC:=ok.lo;obtain⟨lw,u⟩:∃z,e.low-4294967296=z:=⟨_,rfl⟩;have C:0<=lw/\lw<4294967296:=aa;rw[u] at M;have c0:=k.low;have N:=k.lK;have hf:=k.free;have m1:lw.tdiv 16777216=lw/16777216:=jF C.1;have m2:lw.tmod 16777216=lw%16777216:=Dr C.1;obtain⟨hi,R⟩:∃z,lw/16777216=z:=⟨_,rfl⟩;obtain⟨lo,S⟩:∃z,lw%16777216=z:=⟨_,rfl⟩;have b1:0<=hi/\hi<=255:=aa;have b2:0<=lo/\lo<=16777215:=aa;rw[R] at m1 M;rw[S] at m2 M;rw[show hi%256=hi by omega] at M;have wb:ajU.wrap hi=hi:=xF;have wi:AS.wrap hi=hi:=aB _ ⟨aa,aa⟩;obtain⟨i0,vM,rt,hz1,hz2⟩:=info_parts zf;obtain⟨xr,T,Ik⟩:=ok.room hl
 have V:0<e.out.length:=by have:=List.length_pos_of_mem T;simpa using this
 rcases k.out.dD with⟨_,h0⟩|⟨o,co,rfl,UD,Bn,oK,UE⟩
 ·omega
 have K:=af k;have QQ:=af q;have HP:=af M;have W:=af ok;obtain⟨n,f⟩:∃n,e.out.length=n:=⟨_,rfl⟩;rw[f] at N hn V oK;have hni:(0:Int)<(n:Int):=aa;have v:=af f;have X:=af u;have wlw:wrap64 (e.low-4294967296)=lw:=by rw[u];exact gV ⟨by omega,by omega⟩
 clear k q M R S ok f u;go_enter Gz.gf func123,ntmps123;go_wp2;rw[X.out]
 have F:Hid (ES (w.setCell ⟨g,0,none⟩ (U O lw)) g h {e with low:=lw} B cc (Y (some ⟨o,0,none⟩) n co)):=by have:=K.out.iO lw;rw[v.out] at this;exact this
 have G:Hid (Q W0 (w.setCell ⟨g,0,none⟩ (U O lw))):=QQ.out.set (by have:=K.out.le;show W0.heap.size<=g;omega) _;generalize w.setCell ⟨g,0,none⟩ (U O lw)=w2 at F G⊢;clear Bn c0 N hf;have Z:Hid (∃x∈e.out.reverse,x≠255):=⟨xr,T,Ik⟩;have D:=af W.out.out;go_loopw[2] (λi wr=>∃(j:Nat)(pre:List Int),j+pre.length=n/\i=U O ((n:Int)-1-(j:Int))/\Hid (e.out=pre++an j 255/\ES wr g h {e with low:=lw,out:=pre++an j 0} B cc (Y (some ⟨o,0,none⟩) n co)/\Q W0 wr)) (λi _=>(intOf i+1).toNat)
 case atStart=>exact⟨0,e.out,by rw[v.out];omega,aj,aj,by simpa using F.out,G.out⟩
 case round=>
  obtain⟨j,pre,hj,rfl,hK⟩:=hrel;obtain⟨k1,k2,k3⟩:=hK.out;clear hK F G;rcases List.eq_nil_or_concat pre with rfl|⟨i8,x,rfl⟩
  ·obtain⟨y,hy,hyn⟩:=Z.out;rw[k1] at hy;simp at hy;omega
  ·rw[List.concat_eq_append] at k1 k2 hj;have hpl:i8.length+1+j=n:=by simp at hj;omega
   have qE:=D.out x (by rw[k1];simp);obtain⟨p,hp⟩:∃p,i8.length=p:=⟨_,rfl⟩;have agD:(n:Int)-1-(j:Int)=(p:Int):=aa;have Uv:(p:Int)<(n:Int):=aa;have hlen:(i8++[x]++an j 0).length=n:=aA;have N:=k2.lK
   have H:aK wr B (Y (some ⟨o,0,none⟩) n co) n (i8++[x]++an j 0):=by have h:=k2.out;dsimp only at h;rw[hlen] at h;exact h
   have cx:=H.at p aa;have oJ:(i8++[x]++an j 0)[p]?.getD 0=x:=by subst hp;simp
   rw[oJ] at cx;have fo:=H.free p;have wB:o≠g:=λh=>k2.og (by rw[<-h];rfl);have K1:=af k1;have K3:=af k3;rw[agD];by_cases hx:x=255
   ·subst hx;have tw:=ES.vL (e:={e with low:=lw}) (xs:=i8++[255]++an j 0) k2 hlen.symm p 0
    have f9:(i8++[255]++an j 0).set p 0=i8++an (j+1) (0:Int):=by subst hp;simp[akl]
    rw[f9] at tw;have UA:=af tw;exact J9
   ·have Ui:(x==255)=false:=by simp[hx]
    have E:fV e.out=i8++[x+1]++an j 0:=by rw[K1.out,QM j i8 hx]
    have w8:ajU.wrap (x+1)=x+1:=by show(x+1)%256=x+1;omega
    have K2:=af k2;have HG:=af oJ;clear k1 k2 k3 oJ
    have wC:(i8++[x]++an j 0).set p (x+1)=fV e.out:=by rw[E];subst hp;simp
    go_wp2
    go_still_tail 13,ai
    change aja _ _ _ _ _ wr.drew;have fo:(wr.drew).frozen? ⟨o,p,none⟩=false:=fo;have cx:(wr.drew).cell? ⟨o,p,none⟩=some (.int .u8 x):=cx;have b:=(ES.vL (e:={e with low:=lw}) (xs:=i8++[x]++an j 0) K2.out hlen.symm p (x+1)).q (Q.refl _).drew;rw[wC] at b;have q5:Q W0 ((wr.setCell ⟨o,p,none⟩ (.int .u8 (x+1))).drew):=(K3.out.set Cg _).drew;have I:=af b;have J:=af q5;have UF:Hid ((fV e.out).length=n):=by rw[Hid,zU,v.out]
    clear b q5 wC E hlen H N;go_wp2;generalize(wr.setCell ⟨o,p,none⟩ (.int .u8 (x+1))).drew=w at I J⊢;have b:=I.out;have f:=UF.out;obtain⟨e1,l⟩:∃z:aZ,{e with low:=lw,out:=fV e.out}=z:=⟨_,rfl⟩;have wD:bT e={{e1 with out:=e1.out++[hi]} with low:=lo*256}:=by rw[HP.out,<-l]
    have HP:=af wD;have GR:e1.low=lw:=by rw[<-l]
    have m:e1.out.length=n:=by rw[<-l];exact f
    rw[l] at b;clear wD l f UF I W D Z v X;obtain⟨AA,UG⟩:∃z:Option aiI,some ⟨o,0,none⟩=z:=⟨_,rfl⟩;rw[UG] at b⊢;have K:=af b;have QQ:=J;have c0:=b.low;rw[GR] at c0;have N:=b.lK;have H:=b.out;rw[m] at H;have KO:=af H;have wA:=af m;have qF:=b.blk.lt;have hBs:B<=w.heap.size:=by have:=b.le;omega
    obtain⟨nn,L⟩:∃z,n=z:=⟨_,rfl⟩;subst L;obtain⟨nn,L⟩:∃z,z=n:=⟨_,rfl⟩;subst L;obtain⟨cA,Il⟩:∃z,z=co:=⟨_,rfl⟩;subst Il;obtain⟨e,Im⟩:∃z,z=e1:=⟨_,rfl⟩;subst Im;clear b H m UG J fo cx;exact TA
end
section
open Go.RowKit Go.WideShapes Go.ChangeShapes
def shift(W0 w:ns)(g h B cc:Nat)(e:aZ)(ov:rl)(k:ES w g h e B cc ov)(ok:cO e)(q:Q W0 w)(f:W0.heap.size<=B)(i:e.out.length<=1000000):
  UL Gz.prog 123 #[ci (some ⟨g,0,none⟩)] w λr w'=>r=be (dl #[])/\(∃b,ES w' g h (bT e) B cc b)/\Q W0 w':=by
 by_cases j:e.low<4294967296
 ·exact aey k ok q f j i
 ·exact aez k ok q f aa i
def ES.lG{e:aZ}(k:ES w g h e B cc ov)(i:Nat)(x:Int):ES (w.setCell ⟨h,i,none⟩ (U O x)) g h {e with ch:=e.ch.set i x} B cc ov:=
 ⟨k.blk.aN k.ne _,k.out.other (jJ w ⟨h,i,none⟩ _) (.inr k.oh),k.dy.set i x,k.ne,k.og,k.oh,k.le⟩
def ES.iP{e:aZ}(k:ES w g h e B cc ov):kt w g=(16777216-e.span).toNat:=Cf
def zg{e:aZ}(h1:4096<=e.span)(b:e.span<16777216):jv (ll e)=jv e:=by
 have f:(ll e).span=e.span*256:=rfl;unfold jv;by_cases h:e.span*256<16777216
 ·grind
 ·grind
def zy{e:aZ}(h:¬e.span<16777216):jv e=e:=by unfold jv;rw[if_neg h]
def agE{e:aZ}(k:ES w g h e B cc ov)(ok:cO e)(G:16777216<=e.span)(q:Q W0 w)(hB:W0.heap.size<=B)(I:c<40)(hn:e.out.length=n)(wu:n<=900000):
  UL Gz.prog 122 #[ci (some ⟨g,0,none⟩),a5 #[U O (c:Int),U O 0]] w λr w'=>r=be (dl #[])/\(∃b,ES w' g h (ib e c 0) B cc b)/\Q W0 w':=by
 obtain⟨X,Z⟩:=ok.ch c I;have qF:=k.blk.lt;have Io:=k.dy.block.2;have tz:=ok.hi;have In:=ok.l0;have Bo:=ok.l1;obtain⟨b1,m,b3,b4⟩:=kX G ok.hi X Z;have hM:=ok.mA G c 0 I;have J:iy e c=e.span/4096*e.ch[c]?.getD 0:=rfl;have lm:(c:Int)<40:=aa;have q1:e.span.tdiv 4096=e.span/4096:=jF aa;have i:ig e c 0={e with span:=iy e c,ch:=e.ch.set c (bj (e.ch[c]?.getD 0) 0)}:=by unfold ig;rw[if_pos rfl]
 have K:=af (MA (e.ch[c]?.getD 0) · X Z);generalize u:e.ch[c]?.getD 0=pp at X Z b1 m i K J;obtain⟨qq,hq⟩:∃z,e.span/4096=z:=⟨_,rfl⟩;rw[hq] at b1 m b3 b4 q1 J;obtain⟨E,hb⟩:∃z,qq*pp=z:=⟨_,rfl⟩;rw[hb] at b1 m J;have wa:AS.wrap (qq*pp)=E:=xE;have wb:wrap64 (qq*pp)=E:=(by rw[<-IntWalk.i64_left,wa]);have H:=af k;have Ip:=af q;have HM:=af hM;have PP:=af i;have L:=af u;have Do:=af J;have Iq:=af hn;have c0:=k.low;have c1:=k.span;have M:=k.kP;have l:=k.dy.at c I;rw[u] at l;clear k hM i J u hb ok hq q hn;go_enter Gz.gf func122,ntmps122;go_wp2
 go_quiet(fail)
 (have y:Q w ((w.alloc (ac #[U O (c:Int),U O 0] 154)).drewN nq):=aR;have h1:=H.out.q y;have T:=(ak.new w 154 #[U O (c:Int),U O 0]).drewN nq;have x1:=Ip.out.trans y;generalize(w.alloc (ac #[U O (c:Int),U O 0] 154)).drewN nq=w1 at h1 x1 T⊢;clear y;have c0:=h1.low;have c1:=h1.span;have M:=h1.kP;have hf:=h1.free;have l:=h1.dy.at c I;rw[L.out] at l;have kf:=h1.dy.free c;have cb:=T.cell)
 go_wp2;have C:=h1.fc E;have D:=T.aN (p:=⟨g,1,none⟩) mG (U O E);have x2:=x1.set (p:=⟨g,1,none⟩) CZ (U O E);generalize w1.setCell ⟨g,1,none⟩ (U O E)=w2 at C x2 D⊢;clear h1 x1 T c0 c1 M hf l kf;have M:=C.kP;have l:=C.dy.at c I;rw[show e.ch[c]?.getD 0=pp from L.out] at l;have kf:=C.dy.free c;have hf:=C.free;have m:=D.cell;have H2:=af C;have X2:=af x2;clear C x2 D;have hlen:(c:Int)<40:=lm;refine et (λN=>Q w2 N/\N.cell? ⟨g,3,none⟩=some (Y (some ⟨h,0,none⟩) 40 cc)/\N.cell? ⟨h,c,none⟩=some (U O pp)/\N.cell? ⟨w.heap.size,0,none⟩=some (U O (c:Int))/\N.cell? ⟨w.heap.size,1,none⟩=some (U O 0)) (λj=>decide (17<=j)) ai ⟨(Q.refl _).drew,M,l,m 0,m 1⟩ λhS=>?_;refine ah 0 (h:=ah 1 (h:=ah 2 (h:=ah 3 (h:=ah 4 (h:=ah 5 (h:=ah 6 (h:=ah 7 (h:=ah 8 (h:=ah 9 (h:=ah 10 (h:=ah 11 (h:=ah 12 (h:=ah 13 (h:=ah 14 (h:=ah 15 (h:=?_))))))))))))))));refine bh (k:=16) ai rfl rfl λK2 R=>?_;go_simp;refine(K.out _).mono ?_;rintro e9 w9⟨rfl,rfl⟩;refine R.out _ _ hS λhS=>?_;clear R K2;refine aV ?_;refine iu [17,18] 17 ai aq rfl ?_;go_wp2;(have h3:=(H2.out.lG c (bj pp 0)).q ((Q.refl _).drew);have x3:=(X2.out.set (p:=⟨h,c,none⟩) (by have:=H2.out.dy.block.1;show W0.heap.size<=h;omega) (U O (bj pp 0))).drew;generalize(w2.setCell ⟨h,c,none⟩ (U O (bj pp 0))).drew=w4 at h3 x3⊢;have h4:ES w4 g h (ig e c 0) B cc ov:=qV;clear M l kf hf m;go_wp2;go_loopw[] (λwr=>∃(f:aZ)(b:rl),Hid (ES wr g h f B cc b/\Q W0 wr/\cO f/\jv f=ib e c 0/\((f.out.length=n/\True)\/(f.out.length=n+1/\1048576<=f.span)\/(f.out.length=n+2/\16777216<=f.span)))) λwr=>kt wr g;(case atStart=>exact⟨_,ov,h4,x3,HM.out,rfl,.inl ⟨by rw[PP.out];exact Iq.out,trivial⟩⟩);(case round=>obtain⟨f,b,hK⟩:=hrel;obtain⟨F,V,S,k4,k5⟩:=hK.out;have e1:=F.span;have e2:=S.lo;have e3:=S.hi;have qG:=af F.iP;by_cases G:f.span<16777216;(case pos=>have K1:=af F;have K2:=af V;have K3:=af S;have K5:=af k5;have HT:=af (shift W0 wr g h B cc f b F S V hB aa);clear F V S hK k5;go_wp2;refine HT.out.mono ?_;rintro e5 w5⟨rfl,⟨IR,W⟩,x5⟩;have f1:=W.span;have f2:=W.free;rw[uO f] at f1;have H5:=af W;have X5:=af x5;clear W x5;have wc:AS.wrap (f.span*256)=f.span*256:=aB _ ⟨aa,aa⟩;go_wp2;go_roundw;(case rel=>exact⟨ll f,IR,H5.out.fc (f.span*256),X5.out.set xV _,K3.out.grow G,(zg e2 G).trans k4,by have h6:=K5.out;have:=pA f;show((bT f).out.length=n/\_)\/((bT f).out.length=n+1/\1048576<=f.span*256)\/((bT f).out.length=n+2/\16777216<=f.span*256);omega⟩);(case measure=>rw[qG.out,(H5.out.fc (f.span*256)).iP];show(16777216-f.span*256).toNat<(16777216-f.span).toNat;omega));(case neg=>have e4:=(zy aa).symm.trans k4;subst e4;go_wp2;refine akv (v:=dl #[]) (by simp[results,results122,go_sem]) rfl ?_;exact⟨rfl,⟨_,F⟩,V⟩)))
def agF{e:aZ}(k:ES w g h e B cc ov)(ok:cO e)(G:16777216<=e.span)(q:Q W0 w)(hB:W0.heap.size<=B)(I:c<40)(hn:e.out.length=n)(wu:n<=900000):
  UL Gz.prog 122 #[ci (some ⟨g,0,none⟩),a5 #[U O (c:Int),U O 1]] w λr w'=>r=be (dl #[])/\(∃i,ES w' g h (ib e c 1) B cc i)/\Q W0 w':=by
 obtain⟨X,Z⟩:=ok.ch c I;have qF:=k.blk.lt;have Io:=k.dy.block.2;have tz:=ok.hi;have In:=ok.l0;have Bo:=ok.l1;obtain⟨b1,u,b3,b4⟩:=kX G ok.hi X Z;have hM:=ok.mA G c 1 I;have J:iy e c=e.span/4096*e.ch[c]?.getD 0:=rfl;have lm:(c:Int)<40:=aa;have q1:e.span.tdiv 4096=e.span/4096:=jF aa;have l:ig e c 1={e with low:=e.low+iy e c,span:=e.span-iy e c,ch:=e.ch.set c (bj (e.ch[c]?.getD 0) 1)}:=by unfold ig;rw[if_neg (by decide)]
 have K:=af (MB (e.ch[c]?.getD 0) · X Z);generalize y:e.ch[c]?.getD 0=pp at X Z b1 u l K J;obtain⟨qq,hq⟩:∃z,e.span/4096=z:=⟨_,rfl⟩;rw[hq] at b1 u b3 b4 q1 J;obtain⟨b,hb⟩:∃z,qq*pp=z:=⟨_,rfl⟩;rw[hb] at b1 u J;have wa:AS.wrap (qq*pp)=b:=xE;have wb:wrap64 (qq*pp)=b:=(by rw[<-IntWalk.i64_left,wa]);have H:=af k;have Ip:=af q;have HM:=af hM;have PP:=af l;have L:=af y;have Do:=af J;have Iq:=af hn;have c0:=k.low;have c1:=k.span;have M:=k.kP;have m:=k.dy.at c I;rw[y] at m;clear k hM l J y hb ok hq q hn;go_enter Gz.gf func122,ntmps122;go_wp2
 go_quiet(fail)
 (have C:Q w ((w.alloc (ac #[U O (c:Int),U O 1] 154)).drewN nq):=aR;have h1:=H.out.q C;have T:=(ak.new w 154 #[U O (c:Int),U O 1]).drewN nq;have x1:=Ip.out.trans C;generalize(w.alloc (ac #[U O (c:Int),U O 1] 154)).drewN nq=w1 at h1 x1 T⊢;clear C;have c0:=h1.low;have c1:=h1.span;have M:=h1.kP;have hf:=h1.free;have m:=h1.dy.at c I;rw[L.out] at m;have kf:=h1.dy.free c;have cb:=T.cell)
 go_wp2;have w2a:wrap64 (e.low+b)=e.low+b:=gV ⟨aa,aa⟩;have w2b:wrap64 (e.span-b)=e.span-b:=gV ⟨aa,aa⟩;have w2c:AS.wrap (e.low+b)=e.low+b:=aB _ ⟨aa,aa⟩;have w2d:AS.wrap (e.span-b)=e.span-b:=aB _ ⟨aa,aa⟩;have D:=(h1.iO (e.low+b)).fc (e.span-b);have E:=(T.aN (p:=⟨g,0,none⟩) mG (U O (e.low+b))).aN (p:=⟨g,1,none⟩) mG (U O (e.span-b));have x2:=(x1.set (p:=⟨g,0,none⟩) CZ (U O (e.low+b))).set (p:=⟨g,1,none⟩) CZ (U O (e.span-b));generalize(w1.setCell ⟨g,0,none⟩ (U O (e.low+b))).setCell ⟨g,1,none⟩ (U O (e.span-b))=w2 at D x2 E⊢;clear h1 x1 T c0 c1 M hf m kf;have M:=D.kP;have m:=D.dy.at c I;rw[show e.ch[c]?.getD 0=pp from L.out] at m;have kf:=D.dy.free c;have hf:=D.free;have u:=E.cell;have H2:=af D;have X2:=af x2;clear D x2 E;have hlen:(c:Int)<40:=lm;refine et (λN=>Q w2 N/\N.cell? ⟨g,3,none⟩=some (Y (some ⟨h,0,none⟩) 40 cc)/\N.cell? ⟨h,c,none⟩=some (U O pp)/\N.cell? ⟨w.heap.size,0,none⟩=some (U O (c:Int))/\N.cell? ⟨w.heap.size,1,none⟩=some (U O 1)) (λj=>decide (17<=j)) ai ⟨(Q.refl _).drew,M,m,u 0,u 1⟩ λhS=>?_;refine ah 0 (h:=ah 1 (h:=ah 2 (h:=ah 3 (h:=ah 4 (h:=ah 5 (h:=ah 6 (h:=ah 7 (h:=ah 8 (h:=ah 9 (h:=ah 10 (h:=ah 11 (h:=ah 12 (h:=ah 13 (h:=ah 14 (h:=ah 15 (h:=?_))))))))))))))));refine bh (k:=16) ai rfl rfl λK2 R=>?_;go_simp;refine(K.out _).mono ?_;rintro e9 w9⟨rfl,rfl⟩;refine R.out _ _ hS λhS=>?_;clear R K2;refine aV ?_;refine iu [17,18] 17 ai aq rfl ?_;go_wp2;(have h3:=(H2.out.lG c (bj pp 1)).q ((Q.refl _).drew);have x3:=(X2.out.set (p:=⟨h,c,none⟩) (by have:=H2.out.dy.block.1;show W0.heap.size<=h;omega) (U O (bj pp 1))).drew;generalize(w2.setCell ⟨h,c,none⟩ (U O (bj pp 1))).drew=w4 at h3 x3⊢;have h4:ES w4 g h (ig e c 1) B cc ov:=qV;clear M m kf hf u;go_wp2;go_loopw[] (λwr=>∃(f:aZ)(i:rl),Hid (ES wr g h f B cc i/\Q W0 wr/\cO f/\jv f=ib e c 1/\((f.out.length=n/\True)\/(f.out.length=n+1/\1048576<=f.span)\/(f.out.length=n+2/\16777216<=f.span)))) λwr=>kt wr g;(case atStart=>exact⟨_,ov,h4,x3,HM.out,rfl,.inl ⟨by rw[PP.out];exact Iq.out,trivial⟩⟩);(case round=>obtain⟨f,i,hK⟩:=hrel;obtain⟨F,V,S,k4,k5⟩:=hK.out;have e1:=F.span;have e2:=S.lo;have e3:=S.hi;have qG:=af F.iP;by_cases G:f.span<16777216;(case pos=>have K1:=af F;have K2:=af V;have K3:=af S;have K5:=af k5;have HT:=af (shift W0 wr g h B cc f i F S V hB aa);clear F V S hK k5;go_wp2;refine HT.out.mono ?_;rintro e5 w5⟨rfl,⟨IR,W⟩,x5⟩;have f1:=W.span;have f2:=W.free;rw[uO f] at f1;have H5:=af W;have X5:=af x5;clear W x5;have wc:AS.wrap (f.span*256)=f.span*256:=aB _ ⟨aa,aa⟩;go_wp2;go_roundw;(case rel=>exact⟨ll f,IR,H5.out.fc (f.span*256),X5.out.set xV _,K3.out.grow G,(zg e2 G).trans k4,by have h6:=K5.out;have:=pA f;show((bT f).out.length=n/\_)\/((bT f).out.length=n+1/\1048576<=f.span*256)\/((bT f).out.length=n+2/\16777216<=f.span*256);omega⟩);(case measure=>rw[qG.out,(H5.out.fc (f.span*256)).iP];show(16777216-f.span*256).toNat<(16777216-f.span).toNat;omega));(case neg=>have e4:=(zy aa).symm.trans k4;subst e4;go_wp2;refine akv (v:=dl #[]) (by simp[results,results122,go_sem]) rfl ?_;exact⟨rfl,⟨_,F⟩,V⟩)))
def put(W0 w:ns)(g h B cc c n:Nat)(b:Int)(e:aZ)(ov:rl)(k:ES w g h e B cc ov)(ok:cO e)(j:16777216<=e.span)(q:Q W0 w)(l:W0.heap.size<=B)(m:c<40)(v:b=0\/b=1)(u:e.out.length=n)(f:n<=900000):
  UL Gz.prog 122 #[ci (some ⟨g,0,none⟩),a5 #[U O (c:Int),U O b]] w λr w'=>r=be (dl #[])/\(∃i,ES w' g h (ib e c b) B cc i)/\Q W0 w':=by
 rcases v with rfl|rfl
 ·exact agE k ok j q l m u f
 ·exact agF k ok j q l m u f
end
section
open Go.RowKit Go.WideShapes Go.ChangeShapes
def YN(h:az 154 2 w B (Y (some ⟨g,0,none⟩) n c) n xs)(m:gR xs=true)(E:n<=20000):
  UL Gz.prog 121 #[Y (some ⟨g,0,none⟩) n c] w λe w'=>e=be (a9 true)/\Q w w':=by
 have r:=af (rZ n xs h.1 m);have H:=af h;have u:(n:Int)<=20000:=aa;go_enter Gz.gf func121,ntmps121;go_wp2;go_loopw[3] (λi wr=>∃k:Nat,k<=n/\i=U O k/\Hid (Q w wr)) (λi _=>n-(intOf i).toNat)
 case atStart=>exact⟨0,aa,rfl,Q.refl _⟩
 case round=>
  obtain⟨k,F,rfl,hK⟩:=hrel;have hq:=hK.out;by_cases b:k<n
  ·have v:(k:Int)<n:=by omega
   obtain⟨j,l,z⟩:=r.out k b;have c0:=(H.out.q hq).cell (k*2) aa;have C:=(H.out.q hq).cell (k*2+1) aa;generalize xs[k*2]?.getD 0=x at j l c0;generalize xs[k*2+1]?.getD 0=y at z C;have D:=af hq;go_wp2;refine(nX _ j l).mono ?_;rintro e w'⟨rfl,rfl⟩;go_wp2;refine(nX _ aa aa).mono ?_;rintro e w'⟨rfl,rfl⟩;go_wp2;go_roundw;case rel=>exact⟨k+1,aa,aH,D.out⟩
   case measure=>exact bg
  ·have f:k=n:=by omega
   subst f;go_wp2;go_ret;exact⟨rfl,hq⟩
def XY(h:az 154 2 w B (Y (some ⟨g,0,none⟩) n c) n xs)(R:gR xs=true)(hn:n<=20000):
  UL Gz.prog 83 #[Y (some ⟨g,0,none⟩) n c] w λe w'=>∃v',e=be v'/\aK w' w.heap.size v' (lJ xs).length (lJ xs)/\Q w w':=by
 have HG:=af (rZ n xs h.1 R);have HV:=YN h R hn;have HL:=h.1;have H:=af h;clear h R;go_enter Gz.gf func83,ntmps83;go_wp2;refine HV.mono ?_;rintro e w0⟨rfl,S⟩;clear HV;go_wp2;refine(OD).mono ?_;rintro e r⟨h,cc,rfl,T,q1⟩;go_wp2;have V:=S.size;have pl:=q1.size;have tt:=T.block;have W:Q w (r.alloc (ac #[U O 0,U O 4294967295,Y none 0 0,Y (some ⟨h,0,none⟩) 40 cc] 160)):=(S.trans q1).alloc _
 have es:ES (r.alloc (ac #[U O 0,U O 4294967295,Y none 0 0,Y (some ⟨h,0,none⟩) 40 cc] 160)) r.heap.size h iQ w.heap.size cc (Y none 0 0):=
  ⟨ak.new _ _ _,aK.nil _ _,(T.alloc _).mono V,aa,by simp[Value.ownBlock],by simp[Value.ownBlock],aa⟩
 generalize r.alloc (ac #[U O 0,U O 4294967295,Y none 0 0,Y (some ⟨h,0,none⟩) 40 cc] 160)=w2 at es W⊢;obtain⟨K,X⟩:∃z,r.heap.size=z:=⟨_,rfl⟩;rw[X] at es⊢;have u:=af es;have Q0:=af W;clear es W T q1 S;go_loopw[4] (λi wr=>∃(k:Nat)(e:aZ)(ov:rl),k<=n/\i=U O k/\Hid (ES wr K h e w.heap.size cc ov/\Q w wr/\RE xs k e)) (λi _=>n-(intOf i).toNat)
 case atStart=>exact⟨0,iQ,_,aa,rfl,u.out,Q0.out,RE.zero xs⟩
 case round=>
  obtain⟨k,e,ov,hk,rfl,hK⟩:=hrel;obtain⟨L,v,l⟩:=hK.out;clear hK u Q0;by_cases m:k<n
  ·have ka:(k:Int)<n:=by omega
   obtain⟨a1,a2,a3⟩:=HG.out k m;have hl:=H.out.q v;have b:=kW xs (k*2) aa;have f:=l.succ HL m a1 a2;generalize xs[k*2]?.getD 0=x at a1 a2 b f;generalize xs[k*2+1]?.getD 0=y at a3 b f;obtain⟨Z,rfl⟩:∃Z:Nat,x=(Z:Int):=⟨x.toNat,aa⟩;rw[Int.toNat_natCast] at f;have HT:=af (put w wr K h w.heap.size cc Z e.out.length y e ov L l.ok l.span v (au _) aa a3 rfl (by have:=l.len;omega));have UB:=af f;clear f L v l;go_wp2_with(refine C0 rfl rfl (k*2) rfl hl aa (Gz.gu underlying154) rfl ze ?_;rw[b]);exact Ka
  ·have j':k=n:=by omega
   rw[j'] at l;have C:=l.full HL;have D:=l.ok;have hle:=l.len;have E:=af C;have F:=af D;have K1:=af L;have K2:=af v;have wt:¬(k:Int)<n:=aa;clear l L v C D;go_wp2;go_loopw[5] (λi wr=>∃(j:Nat)(ov:rl),j<=4/\i=U O j/\Hid (ES wr K h (mq j e) w.heap.size cc ov/\Q w wr)) (λi _=>4-(intOf i).toNat)
   case atStart=>exact⟨0,ov,aa,rfl,K1.out,K2.out⟩
   case round=>
    obtain⟨j,ov,hj,rfl,hK⟩:=hrel;obtain⟨y1,y2⟩:=hK.out;clear hK K1 K2;by_cases G:j<4
    ·have tu:(j:Int)<4:=by omega
     have HT:=af (shift w wr K h w.heap.size cc (mq j e) ov y1 (zW j F.out) y2 (au _) (by rw[zx];omega));exact Kd
    ·have Bp:j=4:=by omega
     rw[Bp] at y1;have c2:=(y1.q ((Q.refl _).alloc (ac #[] 5))).lK;have hje:¬(j:Int)<4:=aa;have HE:Hid ((mq 4 e).out=lJ xs):=by rw[Hid,E.out];rfl
     have I:=zx 4 e;have M:=y1.out;obtain⟨N,J⟩:∃N,(mq 4 e).out=N:=⟨_,rfl⟩;rw[J] at M I HE;rcases M.dD with⟨_,h0⟩|⟨go,co,rfl,UD,Bn,oK,UE⟩
     ·omega
     have UH:N.length<=100000:=aa;have HO:=af M;clear I;have Y2:=af y2;have Ir:=y2.size;clear y1 y2 M G m F E J;go_wp2_with(at_builtin;go_loud (refine Wk rfl rfl (Gz.gu underlying52) rfl (aK.jT _ w.heap.size Ir) ⟨go,0,none⟩ N rfl rfl ?_ ?_ ?_ ?_;omega;(simp only[World.size_alloc];omega);(intro j hj;rw[show(⟨go,0,none⟩:aiI).add j=⟨go,j,none⟩ by unfold Addr.add;simp;omega];exact(HO.out.alloc _).at j hj);intro v9 w9 O9 G9));go_ret;refine⟨v9,rfl,?_,?_⟩
     ·rw[<-HE.out];simpa using O9
     ·exact(Y2.out.alloc _).grown G9 (λk hk=>by have e:wr.heap.size=k:=aL hk;omega)
end
end Go.Proofs.Q0
