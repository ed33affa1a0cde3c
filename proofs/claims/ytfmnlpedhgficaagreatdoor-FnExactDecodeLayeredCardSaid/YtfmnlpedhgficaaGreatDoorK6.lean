import Derived.Test.YtfmnlpedhgficaaGreatDoorK5
set_option maxRecDepth 100000
set_option maxHeartbeats 8000000
set_option linter.all false
open Go.Value renaming int->U,slice->Y,bool->a5,agg->a9,pointer->bi,tuple->ci,iface->em
open Go.IntKind renaming i64->O
open Go.Obj renaming cells->ac
open Go.Ending renaming returned->be
open Go renaming Addr->ajF,Calls->aiK,Value->so,World->AS,bodyPost_end->alp
open Go.IntKind renaming i64->EV,u8->akN
open List renaming nil_append->akH,replicate->rl,replicate_succ->akg
open Option renaming none->ns,some->an
namespace Go.Proofs
abbrev DX:=@Int.tmod_eq_emod_of_nonneg
def C1{p:Prop}(h:p:=by unfold lk;rw[k.span]):p:=h
def yC{p:Prop}(h:p:=by rw[hb];exact IntWalk.i64_in _ ⟨by omega,by omega⟩):p:=h
def Dh{p:Prop}(h:p:=by injection e with e;exact e.symm):p:=h
def mO{p:Prop}(h:p:=by injection e):p:=h
def yD{p:Prop}(h:p:=by show hi%256=hi;omega):p:=h
def C2{p:Prop}(h:p:=by show W0.heap.size<=o;omega):p:=h
def KC{p:Prop}(h:p:=by
  clear ui f9 k1 k2 k3 WP hlen hp;go_wp2;go_roundw;case rel=>exact⟨j+1,i8,aa,aF,by rw[K1.out];simp[List.replicate_succ],Vd.out,K3.out.set C2 _⟩
  case measure=>simp[intOf]):p:=h
def nz{p:Prop}(h:p:=by show w.heap.size≠g;omega):p:=h
def Dy{p:Prop}(h:p:=by have:=h1.le;show W0.heap.size<=g;omega):p:=h
def yV{p:Prop}(h:p:=by have:=H5.out.le;show W0.heap.size<=g;omega):p:=h
def KE{p:Prop}(h:p:=by
  refine HT.out.mono ?_;rintro r w5⟨rfl,⟨Id,e5⟩,q5⟩;go_wp2;go_roundw;case rel=>exact⟨k+1,_,Id,aa,aF,e5,q5,Ve.out⟩
  case measure=>simp[intOf];omega):p:=h
def KF{p:Prop}(h:p:=by
  clear y1 y2;go_wp2;refine HT.out.mono ?_;rintro r w5⟨rfl,⟨Id,e5⟩,q5⟩;go_wp2;go_roundw;case rel=>exact⟨j+1,Id,aa,aF,e5,q5⟩
  case measure=>simp[intOf];omega):p:=h
end Go.Proofs
namespace Go.Proofs.Q0
open Go.Proofs.Tryz
variable{n c B g h cc p:Nat}{x:Int}{w W0:AS}{xs:List Int}{A:Option ajF}{ov:so}
section
open Go.RowKit Go.WideShapes Go.ChangeShapes
def xv(d:ax)(A:Option ajF)(n c p h cc:Nat):Array so:=#[U O d.code,U O d.span,Y A n c,U O (p:Int),Y (an ⟨h,0,ns⟩) 40 cc]
structure DS(w:AS)(g h:Nat)(d:ax)(xs:List Int)(A:Option ajF)(c cc B p:Nat):Prop where
 blk:ak w g 122 (xv d A xs.length c p h cc)
 dG:Own w B (Y (an ⟨h,0,ns⟩) 40 cc) 40 d.ch
 rd:bB w B A xs
 rest:d.rest=xs.drop p
 le:B<=g
 ne:g≠h
 kN:bytes xs
 len:xs.length<=c/\c<=maxLen
section
variable{w w':AS}{g h c cc B p:Nat}{d:ax}{xs:List Int}{A:Option ajF}
def DS.lt(k:DS w g h d xs A c cc B p):g<w.heap.size:=k.blk.lt
def DS.aV(k:DS w g h d xs A c cc B p):B<=h/\h<w.heap.size:=k.dG.block
def DS.q(k:DS w g h d xs A c cc B p)(hq:Q w w'):DS w' g h d xs A c cc B p:=
 ⟨k.blk.q hq,k.dG.q hq,k.rd.q hq (aI k.le (Nat.le_of_lt k.blk.lt)),k.rest,k.le,k.ne,k.kN,k.len⟩
def Rl{ys:List Int}{S:List Nat}(k:Own w B (Y (an ⟨h,0,ns⟩) n cc) n ys)(e:au S w w')(j:h∉S):Own w' B (Y (an ⟨h,0,ns⟩) n cc) n ys:=by
 refine⟨k.1,?_⟩;obtain⟨h1,i⟩:=k.2;refine⟨h1,?_⟩;rcases i with i|⟨g,a,b,l,m,o,r⟩
 ·simp_all
 ·refine .inr ⟨g,a,b,l,m,?_,r⟩;have:g=h:=eY;subst this;rcases dg g w.heap.size with f|q
  ·exact(e.block g f j).trans o
  ·simp_all
def DS.az{S:List Nat}(k:DS w g h d xs A c cc B p)(e:au S w w')(a:∀x,x∈S->B<=x)(b:g∉S)(f:h∉S):DS w' g h d xs A c cc B p:=
 ⟨k.blk.az e b,Rl k.dG e f,k.rd.az e (aI k.le (Nat.le_of_lt k.blk.lt)) a,k.rest,k.le,k.ne,k.kN,k.len⟩
def DS.code(k:DS w g h d xs A c cc B p):w.cell? ⟨g,0,ns⟩=an (U O d.code):=k.blk.cell 0
def DS.span(k:DS w g h d xs A c cc B p):w.cell? ⟨g,1,ns⟩=an (U O d.span):=k.blk.cell 1
def DS.Vf(k:DS w g h d xs A c cc B p):w.cell? ⟨g,2,ns⟩=an (Y A xs.length c):=k.blk.cell 2
def DS.pos(k:DS w g h d xs A c cc B p):w.cell? ⟨g,3,ns⟩=an (U O (p:Int)):=k.blk.cell 3
def DS.lN(k:DS w g h d xs A c cc B p):w.cell? ⟨g,4,ns⟩=an (Y (an ⟨h,0,ns⟩) 40 cc):=k.blk.cell 4
def DS.free(k:DS w g h d xs A c cc B p)(i:Nat):w.frozen? ⟨g,i,ns⟩=false:=k.blk.free i
def DS.jP(k:DS w g h d xs A c cc B p)(i:Nat)(hi:i<40):w.cell? ⟨h,i,ns⟩=an (U O (d.ch[i]?.getD 0)):=k.dG.at i hi
def DS.Bt(k:DS w g h d xs A c cc B p)(i:Nat):w.frozen? ⟨h,i,ns⟩=false:=k.dG.free i
def wu(r:bB w B A xs){q:ajF}(hq:B<=q.block){u:so}:bB (w.setCell q u) B A xs:=r.keep λb o f=>oM (a:=⟨b,o,ns⟩) (jh w _ u b aa)
def AV{ys:List Int}(k:Own w B (Y (an ⟨h,0,ns⟩) n cc) n ys){q:ajF}(hq:h≠q.block){u:so}:Own (w.setCell q u) B (Y (an ⟨h,0,ns⟩) n cc) n ys:=
 Rl k ((au.refl [q.block] w).set (.inl aj) u) (by simp[hq])
def DS.jr(k:DS w g h d xs A c cc B p)(x:Int):DS (w.setCell ⟨g,0,ns⟩ (U O x)) g h {d with code:=x} xs A c cc B p:=
 ⟨k.blk.set 0 _,AV k.dG λe=>k.ne e.symm,wu k.rd k.le,k.rest,k.le,k.ne,k.kN,k.len⟩
def DS.fC(k:DS w g h d xs A c cc B p)(x:Int):DS (w.setCell ⟨g,1,ns⟩ (U O x)) g h {d with span:=x} xs A c cc B p:=
 ⟨k.blk.set 1 _,AV k.dG λe=>k.ne e.symm,wu k.rd k.le,k.rest,k.le,k.ne,k.kN,k.len⟩
def DS.step(k:DS w g h d xs A c cc B p)(x:Int):DS ((w.setCell ⟨g,3,ns⟩ (U O ((p:Int)+1))).setCell ⟨g,0,ns⟩ (U O x)) g h {d with code:=x,rest:=d.rest.tail} xs A c cc B (p+1):=by have a:=(k.blk.set 3 (U O ((p:Int)+1))).set 0 (U O x);refine⟨a,AV (AV k.dG λe=>k.ne e.symm) λe=>k.ne e.symm,wu (wu k.rd k.le) k.le,?_,k.le,k.ne,k.kN,k.len⟩;rw[k.rest,List.tail_drop]
def DS.mw(k:DS w g h d xs A c cc B p)(i:Nat)(x:Int):DS (w.setCell ⟨h,i,ns⟩ (U O x)) g h {d with ch:=d.ch.set i x} xs A c cc B p:=
 ⟨k.blk.aN k.ne _,k.dG.set i x,wu k.rd k.aV.1,k.rest,k.le,k.ne,k.kN,k.len⟩
end
def aaF{d:ax}(h:d.rest=[]):cV d={d with code:=d.code%16777216*256,rest:=d.rest.tail}:=by rw[zL h,h];rfl
def Ex{d:ax}{r:List Int}(h:d.rest=x::r)(h0:0<=x)(h1:x<=255):cV d={d with code:=d.code%16777216*256+x,rest:=d.rest.tail}:=by rw[N6 h,h,u64_in aa aa];rfl
def next(w:AS)(g h c cc B p:Nat)(d:ax)(xs:List Int)(A:Option ajF)(k:DS w g h d xs A c cc B p)(h0:0<=d.code)(h1:d.code<=4294967295)(G:p<=1000000000):
  aiK Gz.prog 87 #[bi (an ⟨g,0,ns⟩)] w λe w'=>e=be (ci #[])/\DS w' g h (cV d) xs A c cc B (p+1)/\au [g] w w':=by
 have i:=k.len;unfold maxLen at i;have y:d.code.tmod 16777216=d.code%16777216:=DX h0;obtain⟨m,hm⟩:∃m,d.code%16777216=m:=⟨_,rfl⟩;have H:0<=m/\m<=16777215:=aa;rw[hm] at y;by_cases a:p<xs.length
 ·have j:d.rest=xs[p]::xs.drop (p+1):=by rw[k.rest,List.drop_eq_getElem_cons a]
  have l:=k.kN xs[p] (sf a);have f:=af (Ex j l.1 l.2);obtain⟨b,o,rfl,z,hc⟩:=k.rd aa;have t:=hc p a;have u:xs[p]?.getD 0=xs[p]:=by rw[List.getElem?_eq_getElem a];rfl
  rw[u] at t;rw[hm] at f;generalize xs[p]=x at l t f;have c0:=k.code;have C:=k.Vf;have D:=k.pos;have E:=k.free;have K:=af k;have F:=af hm;have r:(p:Int)<(xs.length:Int):=aa;have s:(p:Int)+1<10000000000:=aa;clear k hc j u hm;go_enter Gz.gf func87,ntmps87;go_wp2
  go_quiet(fail)
  go_wp2
  go_quiet(fail)
  go_wp2;refine alp (v:=ci #[]) (by simp[results,results87,go_sem]) rfl ⟨rfl,?_,(((au.refl [g] w).drewN _).set (.inl aj) _).set (.inl aj) _⟩;rw[f.out];exact(K.out.q ((Q.refl w).drewN _)).step (m*256+x)
 ·have j:d.rest=[]:=by rw[k.rest,List.drop_of_length_le aa]
  have f:=af (aaF j);rw[hm] at f;have c0:=k.code;have C:=k.Vf;have D:=k.pos;have E:=k.free;have K:=af k;have F:=af hm;have r:¬(p:Int)<(xs.length:Int):=aa;have s:(p:Int)+1<10000000000:=aa;clear k j hm;go_enter Gz.gf func87,ntmps87;go_wp2
  go_quiet(fail)
  go_wp2;refine alp (v:=ci #[]) (by simp[results,results87,go_sem]) rfl ⟨rfl,?_,(((au.refl [g] w).drewN _).set (.inl aj) _).set (.inl aj) _⟩;rw[f.out];exact(K.out.q ((Q.refl w).drewN _)).step (m*256)
end
section
open Go.RowKit Go.WideShapes Go.ChangeShapes
def O7:aiK Gz.prog 86 #[] w λe w'=>∃g c,e=be (Y (an ⟨g,0,ns⟩) 40 c)/\Own w' w.heap.size (Y (an ⟨g,0,ns⟩) 40 c) 40 pA/\Q w w':=by
 have l:=Own.iV w w.heap.size (av _);have m:=(Q.refl w).alloc (ac #[] 3);go_enter Gz.gf func86,ntmps86;go_wp2;go_loopw[1,2] (λv i wr=>∃k:Nat,k<=40/\i=U O k/\Own wr w.heap.size v k (rl k 2048)/\Q w wr) (λ_ i _=>40-(intOf i).toNat)
 case atStart=>exact⟨0,dk _,rfl,l,m⟩
 case round=>
  obtain⟨k,s,rfl,ip,li⟩:=hrel;by_cases o:k<40
  ·have j:(k:Int)<40:=by omega
   have q:=li.size;go_wp2_with((at_builtin;refine uS rfl rfl w w.heap.size rfl (ip.alloc _) ⟨_,0,ns⟩ rfl rT rT rT (li.alloc _) (vA _ _ _ _) ?_;intro t w' b f r _;skip));go_roundw;case rel=>exact⟨k+1,aa,aF,by have h:=b;rw[show rl (k+1) (2048:Int)=rl k 2048++[2048] from List.replicate_succ'];exact h,f⟩
   case measure=>exact aT
  ·have a:k=40:=by omega
   subst a;exact Kz
def afi(f:bB w B A xs)(z:xs.length=n)(hc:n<=c/\c<=maxLen)(j:B<=w.heap.size)(C:bytes xs):
  aiK Gz.prog 63 #[Y A n c] w λe w'=>∃g h cc,e=be (bi (an ⟨g,0,ns⟩))/\w.heap.size<=g/\w.heap.size<=h/\DS w' g h (eG xs) xs A c cc B 4/\Q w w':=by
 go_enter Gz.gf func63,ntmps63;go_wp2;refine(O7).mono ?_;rintro e b⟨h,cc,rfl,t,q1⟩;go_wp2;have l:((b.alloc (ac #[U O 0,U O 4294967295,Y A n c,U O 0,Y (an ⟨h,0,ns⟩) 40 cc] 122)):AS)=(b.alloc (ac (xv (fA xs) A xs.length c 0 h cc) 122)):=by rw[z];rfl
 rw[l];have m:=q1.size;have o:=t.block
 have s:DS (b.alloc (ac (xv (fA xs) A xs.length c 0 h cc) 122)) b.heap.size h (fA xs) xs A c cc B 0:=
  ⟨ak.new _ _ _,(t.alloc _).mono j,(f.q q1 j).alloc (aI j q1.size) _,rfl,aI j q1.size,aa,C,aa⟩
 have u:Q w (b.alloc (ac (xv (fA xs) A xs.length c 0 h cc) 122)):=q1.alloc _;clear l;generalize b.alloc (ac (xv (fA xs) A xs.length c 0 h cc) 122)=R at s u⊢;obtain⟨g,D⟩:∃g,b.heap.size=g:=⟨_,rfl⟩;rw[D] at s m o⊢;clear D f q1 j z t;go_loopw[4] (λi wr=>∃(k:Nat)(d:ax),k<=4/\i=U O k/\Hid (DS wr g h d xs A c cc B k/\Q w wr/\(k=0->d=fA xs)/\(k=1->d=cV (fA xs))/\(k=2->d=cV (cV (fA xs)))/\(k=3->d=cV (cV (cV (fA xs))))/\(k=4->d=eG xs)/\0<=d.code/\d.code<=4294967295)) (λi _=>4-(intOf i).toNat)
 case atStart=>exact⟨0,fA xs,aa,rfl,s,u,λ_=>rfl,λh=>by omega,λh=>by omega,λh=>by omega,λh=>by omega,by show(0:Int)<=0;omega,by show(0:Int)<=_;omega⟩
 case round=>
  obtain⟨k,d,S,rfl,hK⟩:=hrel;obtain⟨v,E,l,F,G,H,I,K,L⟩:=hK.out;clear hK s u;by_cases M:k<4
  ·have J:(k:Int)<4:=by omega
   have N:=next wr g h c cc B k d xs A v K L aa
   have a:0<=(cV d).code/\(cV d).code<=4294967295:=by
    cases hr:d.rest with
    |nil=>rw[zL hr];show 0<=d.code%16777216*256/\d.code%16777216*256<=_;omega
    |cons x r=>
     have f:=C x (by
      have:x∈d.rest:=uR;rw[v.rest] at this;exact List.mem_of_mem_drop this)
     rw[Ex hr f.1 f.2];show 0<=d.code%16777216*256+x/\d.code%16777216*256+x<=_;omega
   go_wp2;refine N.mono ?_;rintro e w3⟨rfl,d3,P⟩;go_wp2;go_roundw
   case rel=>
    refine⟨k+1,cV d,aa,aF,d3,P.toQ E aA,λh=>by omega,λh=>?_,λh=>?_,λh=>?_,λh=>?_,a.1,a.2⟩
    ·rw[l aa]
    ·rw[F aa]
    ·rw[G aa]
    ·rw[H aa];rfl
   case measure=>exact aT
  ·have y:k=4:=by omega
   subst y;have e:=I rfl;subst e;clear l F G H I;go_wp2;go_ret;exact⟨g,h,cc,rfl,m,o.1,v,E⟩
end
section
open Go.RowKit Go.WideShapes Go.ChangeShapes
def DS.js{d:ax}(k:DS w g h d xs A c cc B p):lk w g=(16777216-d.span).toNat:=C1
def zH{d:ax}(b:bytes d.rest)(h0:0<=d.code):(cV d).code<=4294967295:=by
 cases hr:d.rest with
 |nil=>rw[zL hr];show d.code%16777216*256<=_;omega
 |cons x r=>have a:=b x uR;rw[Ex hr a.1 a.2];show d.code%16777216*256+x<=_;omega
def DS.bytes{d:ax}(k:DS w g h d xs A c cc B p):bytes d.rest:=λx a=>k.kN x (by rw[k.rest] at a;exact List.mem_of_mem_drop a)
def DS.adU{d:ax}(k:DS w g h d xs A c cc B p)(h0:0<=d.code):(feed d).code<=4294967295:=zH k.bytes h0
def Ty{p:Prop}(h:p:=by have i:(dP d k).code<=4294967295:=(by rw[Pi.out];(try rw[CD.out]);first|exact IL|(show d.code-bb<=4294967295;omega));go_wp2;go_loopw[] (λwr=>∃(e:ax)(p':Nat),Hid (DS wr g h e xs A c cc B p'/\au [g,h] w wr/\xt e/\e.code<=4294967295/\jO e=bO d k/\(p'=p\/(p'=p+1/\1048576<=e.span)\/(p'=p+2/\16777216<=e.span)))) λwr=>lk wr g;(case atStart=>exact⟨_,p,h4,x3,HM.out,i,rfl,.inl rfl⟩);(case round=>obtain⟨e,p',hK⟩:=hrel;obtain⟨a,j,b,l,o,q⟩:=hK.out;have H:=a.span;have v:=b.lo;have I:=b.hi;have m:=af a.js;by_cases y:e.span<16777216;(have J:=af a;have z:=af j;have r:=af b;have K:=af l;have C:=af q;have D:=af (next wr g h c cc B p' e xs A a b.c0 l (by omega));have E:=af (a.adU b.c0);clear a j b l hK q;go_wp2;refine D.out.mono ?_;rintro L M⟨rfl,f,s⟩;have f1:=f.span;have f2:=f.free;rw[show(cV e).span=e.span from rfl] at f1;have t:=af f;have F:=af (z.out.az s λg u=>.inl (by simp at u;simp[u]));clear f s;have wc:IntKind.i64.wrap (e.span*256)=e.span*256:=aB _ ⟨by omega,by omega⟩;go_wp2;go_roundw;(case rel=>exact⟨feed e,p'+1,t.out.fC (e.span*256),F.out.set (.inl (by simp)) _,⟨by show 4096<=e.span*256;omega,by show e.span*256<=_;omega,(jM).1,(jM).2,r.out.len,r.out.ch⟩,E.out,(NA v y).trans o,by have N:=C.out;show p'+1=p\/(p'+1=p+1/\1048576<=e.span*256)\/(p'+1=p+2/\16777216<=e.span*256);omega⟩);(case measure=>rw[m.out,(t.out.fC (e.span*256)).js];show(16777216-e.span*256).toNat<(16777216-e.span).toNat;omega));(have G:=(N8 (by omega)).symm.trans o;subst G;go_wp2;go_ret;exact⟨rfl,⟨p',by omega,a⟩,j⟩))):p:=h
def get(w:AS)(g h c cc B p k:Nat)(d:ax)(xs:List Int)(A:Option ajF)(hd:DS w g h d xs A c cc B p)(ok:bT d)(IL:d.code<=4294967295)(t:k<40)(W:p<=900000000):
  aiK Gz.prog 88 #[bi (an ⟨g,0,ns⟩),U O (k:Int)] w λe w'=>e=be (U O (cU d k))/\(∃p',p'<=p+2/\DS w' g h (bO d k) xs A c cc B p')/\au [g,h] w w':=by
 obtain⟨F,G⟩:=ok.ch k t;have c0:=hd.code;have C:=hd.span;have s:=hd.lN;have j:=hd.jP k t;have hS:=ok.lo;have S:=ok.hi;have X:=ok.c0;obtain⟨D,E,N,P⟩:=lY ok.lo ok.hi F G;have J:=ok.nk k t;have l:dZ d k=d.span/4096*d.ch[k]?.getD 0:=rfl;have T:(k:Int)<40:=aa;have q1:d.span.tdiv 4096=d.span/4096:=j8 aa;have R:=hd.dG.dE;by_cases b:d.code<dZ d k
 ·have f:cU d k=0:=by unfold cU;rw[if_pos b]
  have a:dP d k={d with span:=dZ d k,ch:=d.ch.set k (bj (d.ch[k]?.getD 0) 0)}:=by unfold dP;rw[if_pos b]
  rw[f];have m:=af (Na (d.ch[k]?.getD 0) · F G);have V:Hid (d.ch[k]?.getD 0=d.ch[k]?.getD 0):=rfl;generalize o:d.ch[k]?.getD 0=pp at c0 C s j F G D E b a m l;obtain⟨q,hq⟩:∃q,d.span/4096=q:=⟨_,rfl⟩;rw[hq] at D E N P q1 l;obtain⟨bb,hb⟩:∃bb,q*pp=bb:=⟨_,rfl⟩;rw[hb] at D E l;have w1:EV.wrap (q*pp)=bb:=yC;have I:wrap64 (q*pp)=bb:=yz;have H:=af hd;have HM:=af J;have Pi:=af a;have r:=af o;rw[l] at b;have CD:=af l;clear hd J a l f o hb ok hq V;go_enter Gz.gf func88,ntmps88;go_wp2
  go_quiet(fail)
  have h1:=H.out.q ((Q.refl w).drewN nq);have u:au [g,h] w (w.drewN nq):=(au.refl _ _).drewN _;generalize w.drewN nq=w1 at h1 u⊢;have c0:=h1.code;have C:=h1.span;have s:=h1.lN;have v:=h1.free;have j:=h1.jP k t;rw[r.out] at j;have y:=h1.Bt;go_wp2;have i:=h1.fC bb;have z:=u.set (p:=⟨g,1,ns⟩) (.inl aj) (U O bb);generalize w1.setCell ⟨g,1,ns⟩ (U O bb)=I at i z⊢;clear h1 u c0 C s v j y;have s:=i.lN;have j:=i.jP k t;rw[show d.ch[k]?.getD 0=pp from r.out] at j;have y:=i.Bt;have v:=i.free;have K:=af i;have L:=af z;clear i z;go_region_with (go_at_call 125;refine(m.out _).mono ?_;rintro e w'⟨rfl,rfl⟩);all_goals(have h3:=(K.out.mw k (bj pp 0)).q ((Q.refl _).drew);have x3:=(L.out.set (p:=⟨h,k,ns⟩) (.inl aj) (U O (bj pp 0))).drew;generalize(I.setCell ⟨h,k,ns⟩ (U O (bj pp 0))).drew=M at h3 x3⊢;have h4:DS M g h (dP d k) xs A c cc B p:=rP;clear s j y v;exact Ty)
 ·have f:cU d k=1:=by unfold cU;rw[if_neg b]
  have a:dP d k={d with code:=d.code-dZ d k,span:=d.span-dZ d k,ch:=d.ch.set k (bj (d.ch[k]?.getD 0) 1)}:=by unfold dP;rw[if_neg b]
  rw[f];have m:=af (Nc (d.ch[k]?.getD 0) · F G);generalize o:d.ch[k]?.getD 0=pp at c0 C s j F G D E b a m l;obtain⟨q,hq⟩:∃q,d.span/4096=q:=⟨_,rfl⟩;rw[hq] at D E N P q1 l;obtain⟨bb,hb⟩:∃bb,q*pp=bb:=⟨_,rfl⟩;rw[hb] at D E l;have w1:EV.wrap (q*pp)=bb:=yC;have I:wrap64 (q*pp)=bb:=yz;have H:=af hd;have HM:=af J;have Pi:=af a;have r:=af o;rw[l] at b;have CD:=af l;clear hd J a l f o hb ok hq;go_enter Gz.gf func88,ntmps88;go_wp2
  go_quiet(fail)
  have h1:=H.out.q ((Q.refl w).drewN nq);have u:au [g,h] w (w.drewN nq):=(au.refl _ _).drewN _;generalize w.drewN nq=w1 at h1 u⊢;have c0:=h1.code;have C:=h1.span;have s:=h1.lN;have v:=h1.free;have j:=h1.jP k t;rw[r.out] at j;have y:=h1.Bt;go_wp2;have i:=(h1.jr (d.code-bb)).fC (d.span-bb);have z:=(u.set (p:=⟨g,0,ns⟩) (.inl aj) (U O (d.code-bb))).set (p:=⟨g,1,ns⟩) (.inl aj) (U O (d.span-bb));generalize(w1.setCell ⟨g,0,ns⟩ (U O (d.code-bb))).setCell ⟨g,1,ns⟩ (U O (d.span-bb))=I at i z⊢;clear h1 u c0 C s v j y;have s:=i.lN;have j:=i.jP k t;rw[show d.ch[k]?.getD 0=pp from r.out] at j;have y:=i.Bt;have v:=i.free;have K:=af i;have L:=af z;clear i z;go_region_with (go_at_call 125;refine(m.out _).mono ?_;rintro e w'⟨rfl,rfl⟩);all_goals(have h3:=(K.out.mw k (bj pp 1)).q ((Q.refl _).drew);have x3:=(L.out.set (p:=⟨h,k,ns⟩) (.inl aj) (U O (bj pp 1))).drew;generalize(I.setCell ⟨h,k,ns⟩ (U O (bj pp 1))).drew=M at h3 x3⊢;have h4:DS M g h (dP d k) xs A c cc B p:=rP;clear s j y v;exact Ty)
end
section
open Go.RowKit Go.WideShapes Go.ChangeShapes
def zO:(Gz.prog.info? 5).map (λi=>(i.zero,i.size,i.bytes))=an (an (.int .u8 0),1,1):=aE
structure ES(w:AS)(g h:Nat)(e:aY)(B cc:Nat)(ov:so):Prop where
 blk:ak w g 170 #[U O e.low,U O e.span,ov,Y (an ⟨h,0,ns⟩) 40 cc]
 out:aK w B ov e.out.length e.out
 dG:Own w B (Y (an ⟨h,0,ns⟩) 40 cc) 40 e.ch
 ne:g≠h
 og:ov.ownBlock≠an g
 oh:ov.ownBlock≠an h
 le:B<=g
def ab5(j:Nat){r:List Int}(a:x≠255):kF (rl j 255++x::r)=rl j 0++(x+1)::r:=by induction j with|zero=>rw[List.replicate_zero,akH,List.replicate_zero,akH,kF,if_neg a]|succ j b=>rw[akg,List.cons_append,kF,if_pos rfl,b];rfl
def Rm(j:Nat)(pre:List Int)(a:x≠255):gI (pre++[x]++rl j 255)=pre++[x+1]++rl j 0:=by unfold gI;rw[List.reverse_append,List.reverse_append,List.reverse_replicate,List.reverse_singleton,List.singleton_append,ab5 j a];simp
section
variable{w w':AS}{g h B cc:Nat}{e:aY}{ov:so}
def ES.q(k:ES w g h e B cc ov)(hq:Q w w'):ES w' g h e B cc ov:=⟨k.blk.q hq,k.out.q hq,k.dG.q hq,k.ne,k.og,k.oh,k.le⟩
def ES.low(k:ES w g h e B cc ov):w.cell? ⟨g,0,ns⟩=an (U O e.low):=k.blk.cell 0
def ES.span(k:ES w g h e B cc ov):w.cell? ⟨g,1,ns⟩=an (U O e.span):=k.blk.cell 1
def ES.mC(k:ES w g h e B cc ov):w.cell? ⟨g,2,ns⟩=an ov:=k.blk.cell 2
def ES.lN(k:ES w g h e B cc ov):w.cell? ⟨g,3,ns⟩=an (Y (an ⟨h,0,ns⟩) 40 cc):=k.blk.cell 3
def ES.free(k:ES w g h e B cc ov)(i:Nat):w.frozen? ⟨g,i,ns⟩=false:=k.blk.free i
def kh(w:AS)(p:ajF)(u:so):w.grownBy (w.setCell p u) (an p.block):=⟨rfl,rfl,rfl,by simp[World.setCell],λi hi a=>jh w p u i λe=>a oH⟩
def ES.jr(k:ES w g h e B cc ov)(x:Int):ES (w.setCell ⟨g,0,ns⟩ (U O x)) g h {e with low:=x} B cc ov:=
 ⟨k.blk.set 0 _,k.out.other (kh w ⟨g,0,ns⟩ _) (.inr k.og),k.dG.other (kh w ⟨g,0,ns⟩ _) (.inr λe=>k.ne Dh),k.ne,k.og,k.oh,k.le⟩
def ES.fC(k:ES w g h e B cc ov)(x:Int):ES (w.setCell ⟨g,1,ns⟩ (U O x)) g h {e with span:=x} B cc ov:=
 ⟨k.blk.set 1 _,k.out.other (kh w ⟨g,1,ns⟩ _) (.inr k.og),k.dG.other (kh w ⟨g,1,ns⟩ _) (.inr λe=>k.ne Dh),k.ne,k.og,k.oh,k.le⟩
def ES.xa{o:Nat}(k:ES w g h {e with out:=xs} B cc (Y (an ⟨o,0,ns⟩) n c))(a:n=xs.length)(i:Nat)(x:Int):ES (w.setCell ⟨o,i,ns⟩ (.int .u8 x)) g h {e with out:=xs.set i x} B cc (Y (an ⟨o,0,ns⟩) n c):=by subst a;have b:g≠o:=λe=>k.og (by rw[e];rfl);have f:h≠o:=λe=>k.oh (by rw[e];rfl);refine⟨k.blk.aN b _,?_,k.dG.other (kh w ⟨o,i,ns⟩ _) (.inr λe=>f mO),k.ne,k.og,k.oh,k.le⟩;have:=k.out.set i x;rw[List.length_set];exact this
end
def ES.appended{W f:AS}{a i:Nat}{e:aY}(u:e.out.length=n)(k:ES w g h e B cc ov)(hq:Q w W)
  (j:f.ownsRow B 5 1 (Y (an ⟨a,0,ns⟩) (n+1) i) (n+1) (e.out.map (.int .u8)++[.int .u8 x]))(l:W.grownBy f ov.ownBlock)(b:ov.ownBlock=an a\/a=W.heap.size):
  ES (f.setCell ⟨g,2,ns⟩ (Y (an ⟨a,0,ns⟩) (n+1) i)) g h {e with out:=e.out++[x]} B cc (Y (an ⟨a,0,ns⟩) (n+1) i):=by
 subst u;have v:=k.blk.lt;have y:=k.dG.block.2;have z:=hq.size
 have m:a≠g:=by
  rcases b with o|o
  ·intro r;exact k.og (by rw[o,r])
  ·omega
 have s:a≠h:=by
  rcases b with o|o
  ·intro r;exact k.oh (by rw[o,r])
  ·omega
 have C:=(k.blk.q hq).grown l λe=>k.og e.symm;have t:=(k.dG.q hq).other l (.inr λe=>k.oh e.symm);have D:aK f B (Y (an ⟨a,0,ns⟩) (e.out.length+1) i) (e.out.length+1) (e.out++[x]):=⟨aj,by simpa using j⟩;refine⟨C.set 2 _,?_,t.other (kh f ⟨g,2,ns⟩ _) (.inr λe=>k.ne Dh),k.ne,λe=>m mO,λe=>s mO,k.le⟩;have:=D.other (kh f ⟨g,2,ns⟩ (Y (an ⟨a,0,ns⟩) (e.out.length+1) i)) (.inr λe=>m mO);rw[List.length_append];exact this
def Ui{p:Prop}(h:p:=by go_region_law (refine step_append_lies _ rfl _ _ 62 rfl B 5 i0 (.int .u8 0) 1 1 (Gz.gu underlying62) xc mt hz1 hz2 rfl (by decide) (.slice AA nn cA) nn (e.out.map (.int .u8)) (by rfl) (by first|exact(KO.out.alloc _).2|exact(KO.out.alloc _).drew.2|exact(KO.out.drew.alloc _).2) ⟨w.heap.size,0,none⟩ 1 1 [.int .u8 hi] (by rfl) (by rfl) (cell_one_new _ _ _) (λu hu=>by simp at hu;rw[hu];rfl) (by decide) (by unfold maxLen;omega) (by omega) (by simp;omega) _ rfl ?_;intro t y z b a f j;have l:=af (ES.appended xw.out K.out (by exact(by repeat(first|exact Q.refl _|assumption|refine Q.drewN ?_ _|refine Q.drew ?_|refine Q.alloc ?_ _|refine Q.trans ?_ (by assumption)|refine Q.set ?_ (by first|exact av _|omega|(simp;done)|(simp;omega)) _))) b a f);have i:=(K.out.blk.q (by exact(by repeat(first|exact Q.refl _|assumption|refine Q.drewN ?_ _|refine Q.drew ?_|refine Q.alloc ?_ _|refine Q.trans ?_ (by assumption)|refine Q.set ?_ (by first|exact av _|omega|(simp;done)|(simp;omega)) _)))).grown a λe=>K.out.og e.symm;have m:=i.cell;have o:=i.free;have r:=af (Q.grown (QQ.out.trans (by exact(by repeat(first|exact Q.refl _|assumption|refine Q.drewN ?_ _|refine Q.drew ?_|refine Q.alloc ?_ _|refine Q.trans ?_ (by assumption)|refine Q.set ?_ (by first|exact av _|omega|(simp;done)|(simp;omega)) _)))) a λk s=>aI hB (K.out.out.2.lt k s).1);clear b a f i);all_goals(go_wp2;refine bodyPost_end (v:=.tuple #[]) (by simp[results,results134,go_sem]) rfl ⟨rfl,⟨_,by rw[HP.out];exact l.out.jr (lo*256)⟩,(r.out.set (by have:=K.out.le;show W0.heap.size<=g;omega) _).set (by have:=K.out.le;show W0.heap.size<=g;omega) _⟩)):p:=h
def afj{e:aY}(k:ES w g h e B cc ov)(ok:cP e)(q:Q W0 w)(hB:W0.heap.size<=B)(C:e.low<4294967296)(o:e.out.length<=1000000):
  aiK Gz.prog 134 #[bi (an ⟨g,0,ns⟩)] w λr w'=>r=be (ci #[])/\(∃j,ES w' g h (bV e) B cc j)/\Q W0 w':=by
 have b:bV e={e with low:=e.low%16777216*256,out:=e.out++[e.low/16777216%256]}:=by unfold bV;rw[if_neg (by omega)]
 have m:=ok.l0;have c0:=k.low;have s:=k.mC;have t:e.low.tdiv 16777216=e.low/16777216:=j8 m;have u:e.low.tmod 16777216=e.low%16777216:=DX m;obtain⟨hi,f⟩:∃z,e.low/16777216=z:=⟨_,rfl⟩;obtain⟨lo,i⟩:∃z,e.low%16777216=z:=⟨_,rfl⟩;have D:0<=hi/\hi<=255:=aa;have E:0<=lo/\lo<=16777215:=aa;rw[f] at t b;rw[i] at u b;rw[show hi%256=hi by omega] at b;have F:akN.wrap hi=hi:=yD;have wi:EV.wrap hi=hi:=aB _ ⟨aa,aa⟩;obtain⟨AA,cA,rfl⟩:=k.out.form;obtain⟨nn,a⟩:∃z,e.out.length=z:=⟨_,rfl⟩;have l:=k.out;rw[a] at l s o k;have K:=af k;have HP:=af b;have QQ:=af q;have v:B<=w.heap.size:=by have:=k.le;have:=k.blk.lt;omega
 obtain⟨i0,xc,mt,hz1,hz2⟩:=info_parts zO;have y:=k.blk.lt;have xw:=af a;have KO:=af l;clear k b q f i l a;go_enter Gz.gf func134,ntmps134;go_wp2;exact Ui
def afk{e:aY}(k:ES w g h e B cc ov)(ok:cP e)(q:Q W0 w)(hB:W0.heap.size<=B)(hl:4294967296<=e.low)(hn:e.out.length<=1000000):
  aiK Gz.prog 134 #[bi (an ⟨g,0,ns⟩)] w λr w'=>r=be (ci #[])/\(∃IN,ES w' g h (bV e) B cc IN)/\Q W0 w':=by
 have I:bV e={e with low:=(e.low-4294967296)%16777216*256,out:=gI e.out++[(e.low-4294967296)/16777216%256]}:=by unfold bV;rw[if_pos (by omega)]
 have l0:=ok.l0;have l1:=ok.l1;have ahr:=ok.lo;obtain⟨lw,m⟩:∃z,e.low-4294967296=z:=⟨_,rfl⟩;have t:0<=lw/\lw<4294967296:=aa;rw[m] at I;have c0:=k.low;have J:=k.mC;have hf:=k.free;have m1:lw.tdiv 16777216=lw/16777216:=j8 t.1;have m2:lw.tmod 16777216=lw%16777216:=DX t.1;obtain⟨hi,L⟩:∃z,lw/16777216=z:=⟨_,rfl⟩;obtain⟨lo,M⟩:∃z,lw%16777216=z:=⟨_,rfl⟩;have b1:0<=hi/\hi<=255:=aa;have b2:0<=lo/\lo<=16777215:=aa;rw[L] at m1 I;rw[M] at m2 I;rw[show hi%256=hi by omega] at I;have wb:akN.wrap hi=hi:=yD;have wi:EV.wrap hi=hi:=aB _ ⟨aa,aa⟩;obtain⟨i0,xc,mt,hz1,hz2⟩:=info_parts zO;obtain⟨xr,N,IP⟩:=ok.room hl
 have P:0<e.out.length:=by have:=List.length_pos_of_mem N;simpa using this
 rcases k.out.dE with⟨_,h0⟩|⟨o,co,rfl,Vg,Ch,X',Vh⟩
 ·omega
 have K:=af k;have QQ:=af q;have HP:=af I;have R:=af ok;obtain⟨n,b⟩:∃n,e.out.length=n:=⟨_,rfl⟩;rw[b] at J hn P X';have hni:(0:Int)<(n:Int):=aa;have s:=af b;have S:=af m;have wlw:wrap64 (e.low-4294967296)=lw:=by rw[m];exact ix ⟨by omega,by omega⟩
 clear k q I L M ok b m;go_enter Gz.gf func134,ntmps134;go_wp2;rw[S.out]
 have C:Hid (ES (w.setCell ⟨g,0,ns⟩ (U O lw)) g h {e with low:=lw} B cc (Y (an ⟨o,0,ns⟩) n co)):=by have:=K.out.jr lw;rw[s.out] at this;exact this
 have D:Hid (Q W0 (w.setCell ⟨g,0,ns⟩ (U O lw))):=QQ.out.set (by have:=K.out.le;show W0.heap.size<=g;omega) _;generalize w.setCell ⟨g,0,ns⟩ (U O lw)=w2 at C D⊢;clear Ch c0 J hf;have T:Hid (∃x∈e.out.reverse,x≠255):=⟨xr,N,IP⟩;have u:=af R.out.out;go_loopw[2] (λi wr=>∃(j:Nat)(pre:List Int),j+pre.length=n/\i=U O ((n:Int)-1-(j:Int))/\Hid (e.out=pre++rl j 255/\ES wr g h {e with low:=lw,out:=pre++rl j 0} B cc (Y (an ⟨o,0,ns⟩) n co)/\Q W0 wr)) (λi _=>(intOf i+1).toNat)
 case atStart=>exact⟨0,e.out,by rw[s.out];omega,aj,aj,by simpa using C.out,D.out⟩
 case round=>
  obtain⟨j,pre,hj,rfl,hK⟩:=hrel;obtain⟨k1,k2,k3⟩:=hK.out;clear hK C D;rcases List.eq_nil_or_concat pre with rfl|⟨i8,x,rfl⟩
  ·obtain⟨y,hy,hyn⟩:=T.out;rw[k1] at hy;simp at hy;omega
  ·rw[List.concat_eq_append] at k1 k2 hj;have hpl:i8.length+1+j=n:=by simp at hj;omega
   have ri:=u.out x (by rw[k1];simp);obtain⟨p,hp⟩:∃p,i8.length=p:=⟨_,rfl⟩;have V:(n:Int)-1-(j:Int)=(p:Int):=aa;have U8:(p:Int)<(n:Int):=aa;have hlen:(i8++[x]++rl j 0).length=n:=aA;have J:=k2.mC
   have E:aK wr B (Y (an ⟨o,0,ns⟩) n co) n (i8++[x]++rl j 0):=by have h:=k2.out;dsimp only at h;rw[hlen] at h;exact h
   have cx:=E.at p aa;have WP:(i8++[x]++rl j 0)[p]?.getD 0=x:=by subst hp;simp
   rw[WP] at cx;have fo:=E.free p;have xx:o≠g:=λh=>k2.og (by rw[<-h];rfl);have K1:=af k1;have K3:=af k3;rw[V];by_cases hx:x=255
   ·subst hx;have ui:=ES.xa (e:={e with low:=lw}) (xs:=i8++[255]++rl j 0) k2 hlen.symm p 0
    have f9:(i8++[255]++rl j 0).set p 0=i8++rl (j+1) (0:Int):=by subst hp;simp[akg]
    rw[f9] at ui;have Vd:=af ui;exact KC
   ·have UY:(x==255)=false:=by simp[hx]
    have v:gI e.out=i8++[x+1]++rl j 0:=by rw[K1.out,Rm j i8 hx]
    have w8:akN.wrap (x+1)=x+1:=by show(x+1)%256=x+1;omega
    have K2:=af k2;have HG:=af WP;clear k1 k2 k3 WP
    have W:(i8++[x]++rl j 0).set p (x+1)=gI e.out:=by rw[v];subst hp;simp
    go_wp2
    go_still_tail 13,ah
    change wpList _ _ _ _ _ wr.drew;have fo:(wr.drew).frozen? ⟨o,p,ns⟩=false:=fo;have cx:(wr.drew).cell? ⟨o,p,ns⟩=an (.int .u8 x):=cx;have a:=(ES.xa (e:={e with low:=lw}) (xs:=i8++[x]++rl j 0) K2.out hlen.symm p (x+1)).q (Q.refl _).drew;rw[W] at a;have q5:Q W0 ((wr.setCell ⟨o,p,ns⟩ (.int .u8 (x+1))).drew):=(K3.out.set C2 _).drew;have F:=af a;have G:=af q5;have X:Hid ((gI e.out).length=n):=by rw[Hid,AP,s.out]
    clear a q5 W v hlen E J;go_wp2;generalize(wr.setCell ⟨o,p,ns⟩ (.int .u8 (x+1))).drew=w at F G⊢;have a:=F.out;have b:=X.out;obtain⟨Z,f⟩:∃z:aY,{e with low:=lw,out:=gI e.out}=z:=⟨_,rfl⟩;have xy:bV e={{Z with out:=Z.out++[hi]} with low:=lo*256}:=by rw[HP.out,<-f]
    have HP:=af xy;have Hw:Z.low=lw:=by rw[<-f]
    have l:Z.out.length=n:=by rw[<-f];exact b
    rw[f] at a;clear xy f b X F R u T s S;obtain⟨AA,Vi⟩:∃z:Option ajF,an ⟨o,0,ns⟩=z:=⟨_,rfl⟩;rw[Vi] at a⊢;have K:=af a;have QQ:=G;have c0:=a.low;rw[Hw] at c0;have J:=a.mC;have E:=a.out;rw[l] at E;have KO:=af E;have xw:=af l;have rj:=a.blk.lt;have hBs:B<=w.heap.size:=by have:=a.le;omega
    obtain⟨nn,H⟩:∃z,n=z:=⟨_,rfl⟩;subst H;obtain⟨nn,H⟩:∃z,z=n:=⟨_,rfl⟩;subst H;obtain⟨cA,IQ⟩:∃z,z=co:=⟨_,rfl⟩;subst IQ;obtain⟨e,IS⟩:∃z,z=Z:=⟨_,rfl⟩;subst IS;clear a E l Vi G fo cx;exact Ui
end
section
open Go.RowKit Go.WideShapes Go.ChangeShapes
def shift(W0 w:AS)(g h B cc:Nat)(e:aY)(ov:so)(k:ES w g h e B cc ov)(ok:cP e)(q:Q W0 w)(b:W0.heap.size<=B)(f:e.out.length<=1000000):
  aiK Gz.prog 134 #[bi (an ⟨g,0,ns⟩)] w λr w'=>r=be (ci #[])/\(∃a,ES w' g h (bV e) B cc a)/\Q W0 w':=by
 by_cases i:e.low<4294967296
 ·exact afj k ok q b i f
 ·exact afk k ok q b aa f
def ES.mw{e:aY}(k:ES w g h e B cc ov)(i:Nat)(x:Int):ES (w.setCell ⟨h,i,ns⟩ (U O x)) g h {e with ch:=e.ch.set i x} B cc ov:=
 ⟨k.blk.aN k.ne _,k.out.other (kh w ⟨h,i,ns⟩ _) (.inr k.oh),k.dG.set i x,k.ne,k.og,k.oh,k.le⟩
def ES.js{e:aY}(k:ES w g h e B cc ov):lk w g=(16777216-e.span).toNat:=C1
theorem zQ{e:aY}(h1:4096<=e.span)(a:e.span<16777216):jW (mb e)=jW e:=by
 have b:(mb e).span=e.span*256:=rfl;unfold jW;by_cases h:e.span*256<16777216
 ·grind
 ·grind
def Ah{e:aY}(h:¬e.span<16777216):jW e=e:=by unfold jW;rw[if_neg h]
def ahs{e:aY}(k:ES w g h e B cc ov)(ok:cP e)(C:16777216<=e.span)(q:Q W0 w)(hB:W0.heap.size<=B)(D:c<40)(hn:e.out.length=n)(xu:n<=900000):
  aiK Gz.prog 133 #[bi (an ⟨g,0,ns⟩),a9 #[U O (c:Int),U O 0]] w λr w'=>r=be (ci #[])/\(∃a,ES w' g h (iI e c 0) B cc a)/\Q W0 w':=by
 obtain⟨R,S⟩:=ok.ch c D;have rj:=k.blk.lt;have IT:=k.dG.block.2;have uj:=ok.hi;have H':=ok.l0;have rk:=ok.l1;obtain⟨T,l,b3,b4⟩:=lY C ok.hi R S;have hM:=ok.nk C c 0 D;have E:iW e c=e.span/4096*e.ch[c]?.getD 0:=rfl;have V:(c:Int)<40:=aa;have q1:e.span.tdiv 4096=e.span/4096:=j8 aa;have b:iL e c 0={e with span:=iW e c,ch:=e.ch.set c (bj (e.ch[c]?.getD 0) 0)}:=by unfold iL;rw[if_pos rfl]
 have F:=af (Na (e.ch[c]?.getD 0) · R S);generalize m:e.ch[c]?.getD 0=pp at R S T l b F E;obtain⟨W,hq⟩:∃z,e.span/4096=z:=⟨_,rfl⟩;rw[hq] at T l b3 b4 q1 E;obtain⟨u,hb⟩:∃z,W*pp=z:=⟨_,rfl⟩;rw[hb] at T l E;have wa:EV.wrap (W*pp)=u:=yC;have wb:wrap64 (W*pp)=u:=(by rw[<-IntWalk.i64_left,wa]);have H:=af k;have X:=af q;have HM:=af hM;have Pi:=af b;have G:=af m;have CD:=af E;have Z:=af hn;have c0:=k.low;have c1:=k.span;have I:=k.lN;have i:=k.dG.at c D;rw[m] at i;clear k hM b E m hb ok hq q hn;go_enter Gz.gf func133,ntmps133;go_wp2
 go_quiet(fail)
 (have o:Q w ((w.alloc (ac #[U O (c:Int),U O 0] 164)).drewN nq):=aU;have h1:=H.out.q o;have M:=(ak.new w 164 #[U O (c:Int),U O 0]).drewN nq;have x1:=X.out.trans o;generalize(w.alloc (ac #[U O (c:Int),U O 0] 164)).drewN nq=w1 at h1 x1 M⊢;clear o;have c0:=h1.low;have c1:=h1.span;have I:=h1.lN;have hf:=h1.free;have i:=h1.dG.at c D;rw[G.out] at i;have kf:=h1.dG.free c;have cb:=M.cell)
 go_wp2;have s:=h1.fC u;have t:=M.aN (p:=⟨g,1,ns⟩) nz (U O u);have x2:=x1.set (p:=⟨g,1,ns⟩) Dy (U O u);generalize w1.setCell ⟨g,1,ns⟩ (U O u)=w2 at s x2 t⊢;clear h1 x1 M c0 c1 I hf i kf;have I:=s.lN;have i:=s.dG.at c D;rw[show e.ch[c]?.getD 0=pp from G.out] at i;have kf:=s.dG.free c;have hf:=s.free;have l:=t.cell;have H2:=af s;have X2:=af x2;clear s x2 t;have hlen:(c:Int)<40:=V;refine fe (λJ=>Q w2 J/\J.cell? ⟨g,3,ns⟩=an (Y (an ⟨h,0,ns⟩) 40 cc)/\J.cell? ⟨h,c,ns⟩=an (U O pp)/\J.cell? ⟨w.heap.size,0,ns⟩=an (U O (c:Int))/\J.cell? ⟨w.heap.size,1,ns⟩=an (U O 0)) (λj=>decide (17<=j)) ah ⟨(Q.refl _).drew,I,i,l 0,l 1⟩ λhS=>?_;refine ai 0 (h:=ai 1 (h:=ai 2 (h:=ai 3 (h:=ai 4 (h:=ai 5 (h:=ai 6 (h:=ai 7 (h:=ai 8 (h:=ai 9 (h:=ai 10 (h:=ai 11 (h:=ai 12 (h:=ai 13 (h:=ai 14 (h:=ai 15 (h:=?_))))))))))))))));refine bA (k:=16) ah rfl rfl λK2 K=>?_;go_simp;refine(F.out _).mono ?_;rintro e9 w9⟨rfl,rfl⟩;refine K.out _ _ hS λhS=>?_;clear K K2;refine bh ?_;refine iB [17,18] 17 ah al rfl ?_;go_wp2;(have h3:=(H2.out.mw c (bj pp 0)).q ((Q.refl _).drew);have x3:=(X2.out.set (p:=⟨h,c,ns⟩) (by have:=H2.out.dG.block.1;show W0.heap.size<=h;omega) (U O (bj pp 0))).drew;generalize(w2.setCell ⟨h,c,ns⟩ (U O (bj pp 0))).drew=w4 at h3 x3⊢;have h4:ES w4 g h (iL e c 0) B cc ov:=rP;clear I i kf hf l;go_wp2;go_loopw[] (λwr=>∃(f:aY)(a:so),Hid (ES wr g h f B cc a/\Q W0 wr/\cP f/\jW f=iI e c 0/\((f.out.length=n/\True)\/(f.out.length=n+1/\1048576<=f.span)\/(f.out.length=n+2/\16777216<=f.span)))) λwr=>lk wr g;(case atStart=>exact⟨_,ov,h4,x3,HM.out,rfl,.inl ⟨by rw[Pi.out];exact Z.out,trivial⟩⟩);(case round=>obtain⟨f,a,hK⟩:=hrel;obtain⟨y,N,L,k4,k5⟩:=hK.out;have e1:=y.span;have e2:=L.lo;have e3:=L.hi;have rq:=af y.js;by_cases C:f.span<16777216;(case pos=>have K1:=af y;have K2:=af N;have K3:=af L;have K5:=af k5;have HT:=af (shift W0 wr g h B cc f a y L N hB aa);clear y N L hK k5;go_wp2;refine HT.out.mono ?_;rintro e5 w5⟨rfl,⟨Id,P⟩,x5⟩;have f1:=P.span;have f2:=P.free;rw[vO f] at f1;have H5:=af P;have X5:=af x5;clear P x5;have wc:EV.wrap (f.span*256)=f.span*256:=aB _ ⟨aa,aa⟩;go_wp2;go_roundw;(case rel=>exact⟨mb f,Id,H5.out.fC (f.span*256),X5.out.set yV _,K3.out.grow C,(zQ e2 C).trans k4,by have h6:=K5.out;have:=qd f;show((bV f).out.length=n/\_)\/((bV f).out.length=n+1/\1048576<=f.span*256)\/((bV f).out.length=n+2/\16777216<=f.span*256);omega⟩);(case measure=>rw[rq.out,(H5.out.fC (f.span*256)).js];show(16777216-f.span*256).toNat<(16777216-f.span).toNat;omega));(case neg=>have e4:=(Ah aa).symm.trans k4;subst e4;go_wp2;refine alp (v:=ci #[]) (by simp[results,results133,go_sem]) rfl ?_;exact⟨rfl,⟨_,y⟩,N⟩)))
def aht{e:aY}(k:ES w g h e B cc ov)(ok:cP e)(C:16777216<=e.span)(q:Q W0 w)(hB:W0.heap.size<=B)(D:c<40)(hn:e.out.length=n)(xu:n<=900000):
  aiK Gz.prog 133 #[bi (an ⟨g,0,ns⟩),a9 #[U O (c:Int),U O 1]] w λr w'=>r=be (ci #[])/\(∃b,ES w' g h (iI e c 1) B cc b)/\Q W0 w':=by
 obtain⟨R,S⟩:=ok.ch c D;have rj:=k.blk.lt;have IT:=k.dG.block.2;have uj:=ok.hi;have H':=ok.l0;have rk:=ok.l1;obtain⟨T,m,b3,b4⟩:=lY C ok.hi R S;have hM:=ok.nk C c 1 D;have E:iW e c=e.span/4096*e.ch[c]?.getD 0:=rfl;have V:(c:Int)<40:=aa;have q1:e.span.tdiv 4096=e.span/4096:=j8 aa;have i:iL e c 1={e with low:=e.low+iW e c,span:=e.span-iW e c,ch:=e.ch.set c (bj (e.ch[c]?.getD 0) 1)}:=by unfold iL;rw[if_neg (by decide)]
 have F:=af (Nc (e.ch[c]?.getD 0) · R S);generalize o:e.ch[c]?.getD 0=pp at R S T m i F E;obtain⟨W,hq⟩:∃z,e.span/4096=z:=⟨_,rfl⟩;rw[hq] at T m b3 b4 q1 E;obtain⟨a,hb⟩:∃z,W*pp=z:=⟨_,rfl⟩;rw[hb] at T m E;have wa:EV.wrap (W*pp)=a:=yC;have wb:wrap64 (W*pp)=a:=(by rw[<-IntWalk.i64_left,wa]);have H:=af k;have X:=af q;have HM:=af hM;have Pi:=af i;have G:=af o;have CD:=af E;have Z:=af hn;have c0:=k.low;have c1:=k.span;have I:=k.lN;have l:=k.dG.at c D;rw[o] at l;clear k hM i E o hb ok hq q hn;go_enter Gz.gf func133,ntmps133;go_wp2
 go_quiet(fail)
 (have s:Q w ((w.alloc (ac #[U O (c:Int),U O 1] 164)).drewN nq):=aU;have h1:=H.out.q s;have M:=(ak.new w 164 #[U O (c:Int),U O 1]).drewN nq;have x1:=X.out.trans s;generalize(w.alloc (ac #[U O (c:Int),U O 1] 164)).drewN nq=w1 at h1 x1 M⊢;clear s;have c0:=h1.low;have c1:=h1.span;have I:=h1.lN;have hf:=h1.free;have l:=h1.dG.at c D;rw[G.out] at l;have kf:=h1.dG.free c;have cb:=M.cell)
 go_wp2;have w2a:wrap64 (e.low+a)=e.low+a:=ix ⟨aa,aa⟩;have w2b:wrap64 (e.span-a)=e.span-a:=ix ⟨aa,aa⟩;have w2c:EV.wrap (e.low+a)=e.low+a:=aB _ ⟨aa,aa⟩;have w2d:EV.wrap (e.span-a)=e.span-a:=aB _ ⟨aa,aa⟩;have t:=(h1.jr (e.low+a)).fC (e.span-a);have u:=(M.aN (p:=⟨g,0,ns⟩) nz (U O (e.low+a))).aN (p:=⟨g,1,ns⟩) nz (U O (e.span-a));have x2:=(x1.set (p:=⟨g,0,ns⟩) Dy (U O (e.low+a))).set (p:=⟨g,1,ns⟩) Dy (U O (e.span-a));generalize(w1.setCell ⟨g,0,ns⟩ (U O (e.low+a))).setCell ⟨g,1,ns⟩ (U O (e.span-a))=w2 at t x2 u⊢;clear h1 x1 M c0 c1 I hf l kf;have I:=t.lN;have l:=t.dG.at c D;rw[show e.ch[c]?.getD 0=pp from G.out] at l;have kf:=t.dG.free c;have hf:=t.free;have m:=u.cell;have H2:=af t;have X2:=af x2;clear t x2 u;have hlen:(c:Int)<40:=V;refine fe (λJ=>Q w2 J/\J.cell? ⟨g,3,ns⟩=an (Y (an ⟨h,0,ns⟩) 40 cc)/\J.cell? ⟨h,c,ns⟩=an (U O pp)/\J.cell? ⟨w.heap.size,0,ns⟩=an (U O (c:Int))/\J.cell? ⟨w.heap.size,1,ns⟩=an (U O 1)) (λj=>decide (17<=j)) ah ⟨(Q.refl _).drew,I,l,m 0,m 1⟩ λhS=>?_;refine ai 0 (h:=ai 1 (h:=ai 2 (h:=ai 3 (h:=ai 4 (h:=ai 5 (h:=ai 6 (h:=ai 7 (h:=ai 8 (h:=ai 9 (h:=ai 10 (h:=ai 11 (h:=ai 12 (h:=ai 13 (h:=ai 14 (h:=ai 15 (h:=?_))))))))))))))));refine bA (k:=16) ah rfl rfl λK2 K=>?_;go_simp;refine(F.out _).mono ?_;rintro e9 w9⟨rfl,rfl⟩;refine K.out _ _ hS λhS=>?_;clear K K2;refine bh ?_;refine iB [17,18] 17 ah al rfl ?_;go_wp2;(have h3:=(H2.out.mw c (bj pp 1)).q ((Q.refl _).drew);have x3:=(X2.out.set (p:=⟨h,c,ns⟩) (by have:=H2.out.dG.block.1;show W0.heap.size<=h;omega) (U O (bj pp 1))).drew;generalize(w2.setCell ⟨h,c,ns⟩ (U O (bj pp 1))).drew=w4 at h3 x3⊢;have h4:ES w4 g h (iL e c 1) B cc ov:=rP;clear I l kf hf m;go_wp2;go_loopw[] (λwr=>∃(f:aY)(b:so),Hid (ES wr g h f B cc b/\Q W0 wr/\cP f/\jW f=iI e c 1/\((f.out.length=n/\True)\/(f.out.length=n+1/\1048576<=f.span)\/(f.out.length=n+2/\16777216<=f.span)))) λwr=>lk wr g;(case atStart=>exact⟨_,ov,h4,x3,HM.out,rfl,.inl ⟨by rw[Pi.out];exact Z.out,trivial⟩⟩);(case round=>obtain⟨f,b,hK⟩:=hrel;obtain⟨y,N,L,k4,k5⟩:=hK.out;have e1:=y.span;have e2:=L.lo;have e3:=L.hi;have rq:=af y.js;by_cases C:f.span<16777216;(case pos=>have K1:=af y;have K2:=af N;have K3:=af L;have K5:=af k5;have HT:=af (shift W0 wr g h B cc f b y L N hB aa);clear y N L hK k5;go_wp2;refine HT.out.mono ?_;rintro e5 w5⟨rfl,⟨Id,P⟩,x5⟩;have f1:=P.span;have f2:=P.free;rw[vO f] at f1;have H5:=af P;have X5:=af x5;clear P x5;have wc:EV.wrap (f.span*256)=f.span*256:=aB _ ⟨aa,aa⟩;go_wp2;go_roundw;(case rel=>exact⟨mb f,Id,H5.out.fC (f.span*256),X5.out.set yV _,K3.out.grow C,(zQ e2 C).trans k4,by have h6:=K5.out;have:=qd f;show((bV f).out.length=n/\_)\/((bV f).out.length=n+1/\1048576<=f.span*256)\/((bV f).out.length=n+2/\16777216<=f.span*256);omega⟩);(case measure=>rw[rq.out,(H5.out.fC (f.span*256)).js];show(16777216-f.span*256).toNat<(16777216-f.span).toNat;omega));(case neg=>have e4:=(Ah aa).symm.trans k4;subst e4;go_wp2;refine alp (v:=ci #[]) (by simp[results,results133,go_sem]) rfl ?_;exact⟨rfl,⟨_,y⟩,N⟩)))
def put(W0 w:AS)(g h B cc c n:Nat)(b:Int)(e:aY)(ov:so)(k:ES w g h e B cc ov)(ok:cP e)(i:16777216<=e.span)(q:Q W0 w)(j:W0.heap.size<=B)(l:c<40)(o:b=0\/b=1)(m:e.out.length=n)(a:n<=900000):
  aiK Gz.prog 133 #[bi (an ⟨g,0,ns⟩),a9 #[U O (c:Int),U O b]] w λr w'=>r=be (ci #[])/\(∃f,ES w' g h (iI e c b) B cc f)/\Q W0 w':=by
 rcases o with rfl|rfl
 ·exact ahs k ok i q j l m a
 ·exact aht k ok i q j l m a
end
section
open Go.RowKit Go.WideShapes Go.ChangeShapes
def Zv(h:ay 164 2 w B (Y (an ⟨g,0,ns⟩) n c) n xs)(l:iq xs=true)(v:n<=20000):
  aiK Gz.prog 132 #[Y (an ⟨g,0,ns⟩) n c] w λe w'=>e=be (a5 true)/\Q w w':=by
 have m:=af (sV n xs h.1 l);have H:=af h;have o:(n:Int)<=20000:=aa;go_enter Gz.gf func132,ntmps132;go_wp2;go_loopw[3] (λi wr=>∃k:Nat,k<=n/\i=U O k/\Hid (Q w wr)) (λi _=>n-(intOf i).toNat)
 case atStart=>exact⟨0,aa,rfl,Q.refl _⟩
 case round=>
  obtain⟨k,z,rfl,hK⟩:=hrel;have hq:=hK.out;by_cases a:k<n
  ·have r:(k:Int)<n:=by omega
   obtain⟨f,j,s⟩:=m.out k a;have c0:=(H.out.q hq).cell (k*2) aa;have t:=(H.out.q hq).cell (k*2+1) aa;generalize xs[k*2]?.getD 0=x at f j c0;generalize xs[k*2+1]?.getD 0=y at s t;have u:=af hq;go_wp2;refine(lV _ f j).mono ?_;rintro e w'⟨rfl,rfl⟩;go_wp2;refine(lV _ aa aa).mono ?_;rintro e w'⟨rfl,rfl⟩;go_wp2;go_roundw;case rel=>exact⟨k+1,aa,aF,u.out⟩
   case measure=>exact aT
  ·have b:k=n:=by omega
   subst b;go_wp2;go_ret;exact⟨rfl,hq⟩
def YG(h:ay 164 2 w B (Y (an ⟨g,0,ns⟩) n c) n xs)(K:iq xs=true)(hn:n<=20000):
  aiK Gz.prog 94 #[Y (an ⟨g,0,ns⟩) n c] w λe w'=>∃v',e=be v'/\aK w' w.heap.size v' (mA xs).length (mA xs)/\Q w w':=by
 have HG:=af (sV n xs h.1 K);have X:=Zv h K hn;have Z:=h.1;have H:=af h;clear h K;go_enter Gz.gf func94,ntmps94;go_wp2;refine X.mono ?_;rintro e w0⟨rfl,L⟩;clear X;go_wp2;refine(O7).mono ?_;rintro e m⟨h,cc,rfl,M,q1⟩;go_wp2;have N:=L.size;have pm:=q1.size;have ug:=M.block;have P:Q w (m.alloc (ac #[U O 0,U O 4294967295,Y ns 0 0,Y (an ⟨h,0,ns⟩) 40 cc] 170)):=(L.trans q1).alloc _
 have es:ES (m.alloc (ac #[U O 0,U O 4294967295,Y ns 0 0,Y (an ⟨h,0,ns⟩) 40 cc] 170)) m.heap.size h ju w.heap.size cc (Y ns 0 0):=
  ⟨ak.new _ _ _,aK.nil _ _,(M.alloc _).mono N,aa,by simp[Value.ownBlock],by simp[Value.ownBlock],aa⟩
 generalize m.alloc (ac #[U O 0,U O 4294967295,Y ns 0 0,Y (an ⟨h,0,ns⟩) 40 cc] 170)=w2 at es P⊢;obtain⟨F,R⟩:∃z,m.heap.size=z:=⟨_,rfl⟩;rw[R] at es⊢;have o:=af es;have Q0:=af P;clear es P M q1 L;go_loopw[4] (λi wr=>∃(k:Nat)(e:aY)(ov:so),k<=n/\i=U O k/\Hid (ES wr F h e w.heap.size cc ov/\Q w wr/\RE xs k e)) (λi _=>n-(intOf i).toNat)
 case atStart=>exact⟨0,ju,_,aa,rfl,o.out,Q0.out,RE.zero xs⟩
 case round=>
  obtain⟨k,e,ov,hk,rfl,hK⟩:=hrel;obtain⟨G,r,f⟩:=hK.out;clear hK o Q0;by_cases l:k<n
  ·have i6:(k:Int)<n:=by omega
   obtain⟨a1,a2,a3⟩:=HG.out k l;have hl:=H.out.q r;have a:=lW xs (k*2) aa;have b:=f.succ Z l a1 a2;generalize xs[k*2]?.getD 0=x at a1 a2 a b;generalize xs[k*2+1]?.getD 0=y at a3 a b;obtain⟨S,rfl⟩:∃S:Nat,x=(S:Int):=⟨x.toNat,aa⟩;rw[Int.toNat_natCast] at b;have HT:=af (put w wr F h w.heap.size cc S e.out.length y e ov G f.ok f.span r (av _) aa a3 rfl (by have:=f.len;omega));have Ve:=af b;clear b G r f;go_wp2_with(refine Dx rfl rfl (k*2) rfl hl aa (Gz.gu underlying164) rfl zN ?_;rw[a]);exact KE
  ·have T:k=n:=by omega
   rw[T] at f;have s:=f.full Z;have t:=f.ok;have hle:=f.len;have u:=af s;have v:=af t;have K1:=af G;have K2:=af r;have G':¬(k:Int)<n:=aa;clear f G r s t;go_wp2;go_loopw[5] (λi wr=>∃(j:Nat)(ov:so),j<=4/\i=U O j/\Hid (ES wr F h (nd j e) w.heap.size cc ov/\Q w wr)) (λi _=>4-(intOf i).toNat)
   case atStart=>exact⟨0,ov,aa,rfl,K1.out,K2.out⟩
   case round=>
    obtain⟨j,ov,hj,rfl,hK⟩:=hrel;obtain⟨y1,y2⟩:=hK.out;clear hK K1 K2;by_cases C:j<4
    ·have tZ:(j:Int)<4:=by omega
     have HT:=af (shift w wr F h w.heap.size cc (nd j e) ov y1 (AU j v.out) y2 (av _) (by rw[Ag];omega));exact KF
    ·have V:j=4:=by omega
     rw[V] at y1;have c2:=(y1.q ((Q.refl _).alloc (ac #[] 5))).mC;have hje:¬(j:Int)<4:=aa;have HE:Hid ((nd 4 e).out=mA xs):=by rw[Hid,u.out];rfl
     have D:=Ag 4 e;have I:=y1.out;obtain⟨J,E⟩:∃J,(nd 4 e).out=J:=⟨_,rfl⟩;rw[E] at I D HE;rcases I.dE with⟨_,h0⟩|⟨go,co,rfl,Vg,Ch,X',Vh⟩
     ·omega
     have Vj:J.length<=100000:=aa;have HO:=af I;clear D;have Y2:=af y2;have W:=y2.size;clear y1 y2 I C l v u E;go_wp2_with(at_builtin;go_loud (refine W6 rfl rfl (Gz.gu underlying62) rfl (aK.iV _ w.heap.size W) ⟨go,0,ns⟩ J rfl rfl ?_ ?_ ?_ ?_;omega;(simp only[World.size_alloc];omega);(intro j hj;rw[show(⟨go,0,ns⟩:ajF).add j=⟨go,j,ns⟩ by unfold Addr.add;simp;omega];exact(HO.out.alloc _).at j hj);intro v9 w9 O9 G9));go_ret;refine⟨v9,rfl,?_,?_⟩
     ·rw[<-HE.out];simpa using O9
     ·exact(Y2.out.alloc _).grown G9 (λk hk=>by have e:wr.heap.size=k:=aJ hk;omega)
end
end Go.Proofs.Q0
