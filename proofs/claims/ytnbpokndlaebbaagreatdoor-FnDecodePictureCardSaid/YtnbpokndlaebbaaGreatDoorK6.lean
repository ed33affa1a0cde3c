import Derived.Test.YtnbpokndlaebbaaGreatDoorK5
set_option maxRecDepth 100000
set_option maxHeartbeats 8000000
set_option linter.all false
open Go.Value renaming int->U,slice->Y,bool->ci,agg->bi,pointer->d9,tuple->em,iface->gc
open Go.IntKind renaming i64->O
open Go.Obj renaming cells->ap
open Go.Ending renaming returned->dl
open Go renaming Addr->aic,Calls->ahR,Value->AS,World->rl,bodyPost_end->ajY
open Go.IntKind renaming i64->EV,u8->akK
open List renaming nil_append->ajr,replicate->so
open Option renaming none->ns,some->an
namespace Go.Proofs
abbrev Dy:=@Int.tmod_eq_emod_of_nonneg
def CH{p:Prop}(h:p:=by unfold kQ;rw[k.span]):p:=h
def yf{p:Prop}(h:p:=by rw[hb];exact IntWalk.i64_in _ ⟨by omega,by omega⟩):p:=h
def C3{p:Prop}(h:p:=by injection e with e;exact e.symm):p:=h
def mw{p:Prop}(h:p:=by injection e):p:=h
def yg{p:Prop}(h:p:=by show hi%256=hi;omega):p:=h
def CI{p:Prop}(h:p:=by show W0.heap.size<=o;omega):p:=h
def J4{p:Prop}(h:p:=by
  clear tS ii k1 k2 k3 pr hlen hp;go_wp2;go_roundw;case rel=>exact⟨j+1,jp,aa,aJ,by rw[K1.out];simp[List.replicate_succ],Uo.out,K3.out.set CI _⟩
  case measure=>simp[intOf]):p:=h
def m9{p:Prop}(h:p:=by show w.heap.size≠g;omega):p:=h
def Dj{p:Prop}(h:p:=by have:=h1.le;show W0.heap.size<=g;omega):p:=h
def yB{p:Prop}(h:p:=by have:=H5.out.le;show W0.heap.size<=g;omega):p:=h
def J5{p:Prop}(h:p:=by
  refine HT.out.mono ?_;rintro r w5⟨rfl,⟨IR,e5⟩,q5⟩;go_wp2;go_roundw;case rel=>exact⟨k+1,_,IR,aa,aJ,e5,q5,Up.out⟩
  case measure=>simp[intOf];omega):p:=h
def J6{p:Prop}(h:p:=by
  clear y1 y2;go_wp2;refine HT.out.mono ?_;rintro r w5⟨rfl,⟨IR,e5⟩,q5⟩;go_wp2;go_roundw;case rel=>exact⟨j+1,IR,aa,aJ,e5,q5⟩
  case measure=>simp[intOf];omega):p:=h
end Go.Proofs
namespace Go.Proofs.Q0
open Go.Proofs.Tryz
variable{n c B g h cc p:Nat}{x:Int}{w W0:rl}{xs:List Int}{A:Option aic}{ov:AS}
section
open Go.RowKit Go.WideShapes Go.ChangeShapes
def xa(d:aA)(A:Option aic)(n c p h cc:Nat):Array AS:=#[U O d.code,U O d.span,Y A n c,U O (p:Int),Y (an ⟨h,0,ns⟩) 40 cc]
structure DS(w:rl)(g h:Nat)(d:aA)(xs:List Int)(A:Option aic)(c cc B p:Nat):Prop where
 blk:ak w g 136 (xa d A xs.length c p h cc)
 dE:Own w B (Y (an ⟨h,0,ns⟩) 40 cc) 40 d.ch
 rd:bC w B A xs
 rest:d.rest=xs.drop p
 le:B<=g
 ne:g≠h
 ks:bytes xs
 len:xs.length<=c/\c<=maxLen
section
variable{w w':rl}{g h c cc B p:Nat}{d:aA}{xs:List Int}{A:Option aic}
def DS.lt(k:DS w g h d xs A c cc B p):g<w.heap.size:=k.blk.lt
def DS.aV(k:DS w g h d xs A c cc B p):B<=h/\h<w.heap.size:=k.dE.block
def DS.q(k:DS w g h d xs A c cc B p)(hq:Q w w'):DS w' g h d xs A c cc B p:=
 ⟨k.blk.q hq,k.dE.q hq,k.rd.q hq (aQ k.le (Nat.le_of_lt k.blk.lt)),k.rest,k.le,k.ne,k.ks,k.len⟩
def Qv{i:List Int}{S:List Nat}(k:Own w B (Y (an ⟨h,0,ns⟩) n cc) n i)(e:al S w w')(l:h∉S):Own w' B (Y (an ⟨h,0,ns⟩) n cc) n i:=by
 refine⟨k.1,?_⟩;obtain⟨h1,j⟩:=k.2;refine⟨h1,?_⟩;rcases j with j|⟨g,a,b,m,o,q,r⟩
 ·simp_all
 ·refine .inr ⟨g,a,b,m,o,?_,r⟩;have:g=h:=eN;subst this;rcases cZ g w.heap.size with f|s
  ·exact(e.block g f l).trans q
  ·simp_all
def DS.aq{S:List Nat}(k:DS w g h d xs A c cc B p)(e:al S w w')(a:∀x,x∈S->B<=x)(b:g∉S)(f:h∉S):DS w' g h d xs A c cc B p:=
 ⟨k.blk.aq e b,Qv k.dE e f,k.rd.aq e (aQ k.le (Nat.le_of_lt k.blk.lt)) a,k.rest,k.le,k.ne,k.ks,k.len⟩
def DS.code(k:DS w g h d xs A c cc B p):w.cell? ⟨g,0,ns⟩=an (U O d.code):=k.blk.cell 0
def DS.span(k:DS w g h d xs A c cc B p):w.cell? ⟨g,1,ns⟩=an (U O d.span):=k.blk.cell 1
def DS.Uq(k:DS w g h d xs A c cc B p):w.cell? ⟨g,2,ns⟩=an (Y A xs.length c):=k.blk.cell 2
def DS.pos(k:DS w g h d xs A c cc B p):w.cell? ⟨g,3,ns⟩=an (U O (p:Int)):=k.blk.cell 3
def DS.lq(k:DS w g h d xs A c cc B p):w.cell? ⟨g,4,ns⟩=an (Y (an ⟨h,0,ns⟩) 40 cc):=k.blk.cell 4
def DS.free(k:DS w g h d xs A c cc B p)(i:Nat):w.frozen? ⟨g,i,ns⟩=false:=k.blk.free i
def DS.jC(k:DS w g h d xs A c cc B p)(i:Nat)(hi:i<40):w.cell? ⟨h,i,ns⟩=an (U O (d.ch[i]?.getD 0)):=k.dE.at i hi
def DS.AW(k:DS w g h d xs A c cc B p)(i:Nat):w.frozen? ⟨h,i,ns⟩=false:=k.dE.free i
def vM(r:bC w B A xs){q:aic}(hq:B<=q.block){u:AS}:bC (w.setCell q u) B A xs:=r.bK λb o f=>iH (a:=⟨b,o,ns⟩) (im w _ u b aa)
def Au{a:List Int}(k:Own w B (Y (an ⟨h,0,ns⟩) n cc) n a){q:aic}(hq:h≠q.block){u:AS}:Own (w.setCell q u) B (Y (an ⟨h,0,ns⟩) n cc) n a:=
 Qv k ((al.refl [q.block] w).set (.inl au) u) (by simp[hq])
def DS.iA(k:DS w g h d xs A c cc B p)(x:Int):DS (w.setCell ⟨g,0,ns⟩ (U O x)) g h {d with code:=x} xs A c cc B p:=
 ⟨k.blk.set 0 _,Au k.dE λe=>k.ne e.symm,vM k.rd k.le,k.rest,k.le,k.ne,k.ks,k.len⟩
def DS.fA(k:DS w g h d xs A c cc B p)(x:Int):DS (w.setCell ⟨g,1,ns⟩ (U O x)) g h {d with span:=x} xs A c cc B p:=
 ⟨k.blk.set 1 _,Au k.dE λe=>k.ne e.symm,vM k.rd k.le,k.rest,k.le,k.ne,k.ks,k.len⟩
def DS.step(k:DS w g h d xs A c cc B p)(x:Int):DS ((w.setCell ⟨g,3,ns⟩ (U O ((p:Int)+1))).setCell ⟨g,0,ns⟩ (U O x)) g h {d with code:=x,rest:=d.rest.tail} xs A c cc B (p+1):=by have a:=(k.blk.set 3 (U O ((p:Int)+1))).set 0 (U O x);refine⟨a,Au (Au k.dE λe=>k.ne e.symm) λe=>k.ne e.symm,vM (vM k.rd k.le) k.le,?_,k.le,k.ne,k.ks,k.len⟩;rw[k.rest,List.tail_drop]
def DS.lX(k:DS w g h d xs A c cc B p)(i:Nat)(x:Int):DS (w.setCell ⟨h,i,ns⟩ (U O x)) g h {d with ch:=d.ch.set i x} xs A c cc B p:=
 ⟨k.blk.aL k.ne _,k.dE.set i x,vM k.rd k.aV.1,k.rest,k.le,k.ne,k.ks,k.len⟩
end
def ZE{d:aA}(h:d.rest=[]):dc d={d with code:=d.code%16777216*256,rest:=d.rest.tail}:=by rw[zB h,h];rfl
def Eb{d:aA}{r:List Int}(h:d.rest=x::r)(h0:0<=x)(h1:x<=255):dc d={d with code:=d.code%16777216*256+x,rest:=d.rest.tail}:=by rw[Nf h,h,u64_in aa aa];rfl
def next(w:rl)(g h c cc B p:Nat)(d:aA)(xs:List Int)(A:Option aic)(k:DS w g h d xs A c cc B p)(h0:0<=d.code)(h1:d.code<=4294967295)(G:p<=1000000000):
  ahR Gz.prog 98 #[d9 (an ⟨g,0,ns⟩)] w λe w'=>e=dl (em #[])/\DS w' g h (dc d) xs A c cc B (p+1)/\al [g] w w':=by
 have i:=k.len;unfold maxLen at i;have y:d.code.tmod 16777216=d.code%16777216:=Dy h0;obtain⟨m,hm⟩:∃m,d.code%16777216=m:=⟨_,rfl⟩;have H:0<=m/\m<=16777215:=aa;rw[hm] at y;by_cases a:p<xs.length
 ·have j:d.rest=xs[p]::xs.drop (p+1):=by rw[k.rest,List.drop_eq_getElem_cons a]
  have l:=k.ks xs[p] (pM a);have f:=ag (Eb j l.1 l.2);obtain⟨b,o,rfl,z,hc⟩:=k.rd aa;have t:=hc p a;have u:xs[p]?.getD 0=xs[p]:=by rw[List.getElem?_eq_getElem a];rfl
  rw[u] at t;rw[hm] at f;generalize xs[p]=x at l t f;have c0:=k.code;have C:=k.Uq;have D:=k.pos;have E:=k.free;have K:=ag k;have F:=ag hm;have r:(p:Int)<(xs.length:Int):=aa;have s:(p:Int)+1<10000000000:=aa;clear k hc j u hm;go_enter Gz.gf func98,ntmps98;go_wp2
  go_quiet(fail)
  go_wp2
  go_quiet(fail)
  go_wp2;refine ajY (v:=em #[]) (by simp[results,results98,go_sem]) rfl ⟨rfl,?_,(((al.refl [g] w).drewN _).set (.inl au) _).set (.inl au) _⟩;rw[f.out];exact(K.out.q ((Q.refl w).drewN _)).step (m*256+x)
 ·have j:d.rest=[]:=by rw[k.rest,List.drop_of_length_le aa]
  have f:=ag (ZE j);rw[hm] at f;have c0:=k.code;have C:=k.Uq;have D:=k.pos;have E:=k.free;have K:=ag k;have F:=ag hm;have r:¬(p:Int)<(xs.length:Int):=aa;have s:(p:Int)+1<10000000000:=aa;clear k j hm;go_enter Gz.gf func98,ntmps98;go_wp2
  go_quiet(fail)
  go_wp2;refine ajY (v:=em #[]) (by simp[results,results98,go_sem]) rfl ⟨rfl,?_,(((al.refl [g] w).drewN _).set (.inl au) _).set (.inl au) _⟩;rw[f.out];exact(K.out.q ((Q.refl w).drewN _)).step (m*256)
end
section
open Go.RowKit Go.WideShapes Go.ChangeShapes
def Of:ahR Gz.prog 97 #[] w λe w'=>∃g c,e=dl (Y (an ⟨g,0,ns⟩) 40 c)/\Own w' w.heap.size (Y (an ⟨g,0,ns⟩) 40 c) 40 pn/\Q w w':=by
 have l:=Own.jb w w.heap.size (ay _);have m:=(Q.refl w).alloc (ap #[] 3);go_enter Gz.gf func97,ntmps97;go_wp2;go_loopw[1,2] (λv i wr=>∃k:Nat,k<=40/\i=U O k/\Own wr w.heap.size v k (so k 2048)/\Q w wr) (λ_ i _=>40-(intOf i).toNat)
 case atStart=>exact⟨0,ez _,rfl,l,m⟩
 case round=>
  obtain⟨k,s,rfl,lm,CA⟩:=hrel;by_cases o:k<40
  ·have j:(k:Int)<40:=by omega
   have q:=CA.size;go_wp2_with((at_builtin;refine uD rfl rfl w w.heap.size rfl (lm.alloc _) ⟨_,0,ns⟩ rfl rN rN rN (CA.alloc _) (rY _ _ _ _) ?_;intro t w' b f r _;skip));go_roundw;case rel=>exact⟨k+1,aa,aJ,by have h:=b;rw[show so (k+1) (2048:Int)=so k 2048++[2048] from List.replicate_succ'];exact h,f⟩
   case measure=>exact bj
  ·have a:k=40:=by omega
   subst a;exact J2
def ad0(f:bC w B A xs)(z:xs.length=n)(hc:n<=c/\c<=maxLen)(j:B<=w.heap.size)(C:bytes xs):
  ahR Gz.prog 63 #[Y A n c] w λe w'=>∃g h cc,e=dl (d9 (an ⟨g,0,ns⟩))/\w.heap.size<=g/\w.heap.size<=h/\DS w' g h (eJ xs) xs A c cc B 4/\Q w w':=by
 go_enter Gz.gf func63,ntmps63;go_wp2;refine(Of).mono ?_;rintro e b⟨h,cc,rfl,t,q1⟩;go_wp2;have l:((b.alloc (ap #[U O 0,U O 4294967295,Y A n c,U O 0,Y (an ⟨h,0,ns⟩) 40 cc] 136)):rl)=(b.alloc (ap (xa (fw xs) A xs.length c 0 h cc) 136)):=by rw[z];rfl
 rw[l];have m:=q1.size;have o:=t.block
 have s:DS (b.alloc (ap (xa (fw xs) A xs.length c 0 h cc) 136)) b.heap.size h (fw xs) xs A c cc B 0:=
  ⟨ak.new _ _ _,(t.alloc _).mono j,(f.q q1 j).alloc (aQ j q1.size) _,rfl,aQ j q1.size,aa,C,aa⟩
 have u:Q w (b.alloc (ap (xa (fw xs) A xs.length c 0 h cc) 136)):=q1.alloc _;clear l;generalize b.alloc (ap (xa (fw xs) A xs.length c 0 h cc) 136)=R at s u⊢;obtain⟨g,D⟩:∃g,b.heap.size=g:=⟨_,rfl⟩;rw[D] at s m o⊢;clear D f q1 j z t;go_loopw[4] (λi wr=>∃(k:Nat)(d:aA),k<=4/\i=U O k/\Hid (DS wr g h d xs A c cc B k/\Q w wr/\(k=0->d=fw xs)/\(k=1->d=dc (fw xs))/\(k=2->d=dc (dc (fw xs)))/\(k=3->d=dc (dc (dc (fw xs))))/\(k=4->d=eJ xs)/\0<=d.code/\d.code<=4294967295)) (λi _=>4-(intOf i).toNat)
 case atStart=>exact⟨0,fw xs,aa,rfl,s,u,λ_=>rfl,λh=>by omega,λh=>by omega,λh=>by omega,λh=>by omega,by show(0:Int)<=0;omega,by show(0:Int)<=_;omega⟩
 case round=>
  obtain⟨k,d,S,rfl,hK⟩:=hrel;obtain⟨v,E,l,F,G,H,I,K,L⟩:=hK.out;clear hK s u;by_cases M:k<4
  ·have J:(k:Int)<4:=by omega
   have N:=next wr g h c cc B k d xs A v K L aa
   have a:0<=(dc d).code/\(dc d).code<=4294967295:=by
    cases hr:d.rest with
    |nil=>rw[zB hr];show 0<=d.code%16777216*256/\d.code%16777216*256<=_;omega
    |cons x r=>
     have f:=C x (by
      have:x∈d.rest:=uC;rw[v.rest] at this;exact List.mem_of_mem_drop this)
     rw[Eb hr f.1 f.2];show 0<=d.code%16777216*256+x/\d.code%16777216*256+x<=_;omega
   go_wp2;refine N.mono ?_;rintro e w3⟨rfl,d3,P⟩;go_wp2;go_roundw
   case rel=>
    refine⟨k+1,dc d,aa,aJ,d3,P.toQ E av,λh=>by omega,λh=>?_,λh=>?_,λh=>?_,λh=>?_,a.1,a.2⟩
    ·rw[l aa]
    ·rw[F aa]
    ·rw[G aa]
    ·rw[H aa];rfl
   case measure=>exact bj
  ·have y:k=4:=by omega
   subst y;have e:=I rfl;subst e;clear l F G H I;go_wp2;go_ret;exact⟨g,h,cc,rfl,m,o.1,v,E⟩
end
section
open Go.RowKit Go.WideShapes Go.ChangeShapes
def DS.je{d:aA}(k:DS w g h d xs A c cc B p):kQ w g=(16777216-d.span).toNat:=CH
def zx{d:aA}(b:bytes d.rest)(h0:0<=d.code):(dc d).code<=4294967295:=by
 cases hr:d.rest with
 |nil=>rw[zB hr];show d.code%16777216*256<=_;omega
 |cons x r=>have a:=b x uC;rw[Eb hr a.1 a.2];show d.code%16777216*256+x<=_;omega
def DS.bytes{d:aA}(k:DS w g h d xs A c cc B p):bytes d.rest:=λx a=>k.ks x (by rw[k.rest] at a;exact List.mem_of_mem_drop a)
def DS.acJ{d:aA}(k:DS w g h d xs A c cc B p)(h0:0<=d.code):(feed d).code<=4294967295:=zx k.bytes h0
def SH{p:Prop}(h:p:=by have i:(dQ d k).code<=4294967295:=(by rw[RC.out];(try rw[Fd.out]);first|exact Ih|(show d.code-bb<=4294967295;omega));go_wp2;go_loopw[] (λwr=>∃(e:aA)(p':Nat),Hid (DS wr g h e xs A c cc B p'/\al [g,h] w wr/\wX e/\e.code<=4294967295/\jB e=bT d k/\(p'=p\/(p'=p+1/\1048576<=e.span)\/(p'=p+2/\16777216<=e.span)))) λwr=>kQ wr g;(case atStart=>exact⟨_,p,h4,x3,HM.out,i,rfl,.inl rfl⟩);(case round=>obtain⟨e,p',hK⟩:=hrel;obtain⟨a,j,b,l,o,q⟩:=hK.out;have H:=a.span;have v:=b.lo;have I:=b.hi;have m:=ag a.je;by_cases y:e.span<16777216;(have J:=ag a;have z:=ag j;have r:=ag b;have K:=ag l;have C:=ag q;have D:=ag (next wr g h c cc B p' e xs A a b.c0 l (by omega));have E:=ag (a.acJ b.c0);clear a j b l hK q;go_wp2;refine D.out.mono ?_;rintro L M⟨rfl,f,s⟩;have f1:=f.span;have f2:=f.free;rw[show(dc e).span=e.span from rfl] at f1;have t:=ag f;have F:=ag (z.out.aq s λg u=>.inl (by simp at u;simp[u]));clear f s;have wc:IntKind.i64.wrap (e.span*256)=e.span*256:=aD _ ⟨by omega,by omega⟩;go_wp2;go_roundw;(case rel=>exact⟨feed e,p'+1,t.out.fA (e.span*256),F.out.set (.inl (by simp)) _,⟨by show 4096<=e.span*256;omega,by show e.span*256<=_;omega,(jz).1,(jz).2,r.out.len,r.out.ch⟩,E.out,(MH v y).trans o,by have N:=C.out;show p'+1=p\/(p'+1=p+1/\1048576<=e.span*256)\/(p'+1=p+2/\16777216<=e.span*256);omega⟩);(case measure=>rw[m.out,(t.out.fA (e.span*256)).je];show(16777216-e.span*256).toNat<(16777216-e.span).toNat;omega));(have G:=(Nh (by omega)).symm.trans o;subst G;go_wp2;go_ret;exact⟨rfl,⟨p',by omega,a⟩,j⟩))):p:=h
def get(w:rl)(g h c cc B p k:Nat)(d:aA)(xs:List Int)(A:Option aic)(hd:DS w g h d xs A c cc B p)(ok:cj d)(Ih:d.code<=4294967295)(t:k<40)(W:p<=900000000):
  ahR Gz.prog 99 #[d9 (an ⟨g,0,ns⟩),U O (k:Int)] w λe w'=>e=dl (U O (cV d k))/\(∃p',p'<=p+2/\DS w' g h (bT d k) xs A c cc B p')/\al [g,h] w w':=by
 obtain⟨F,G⟩:=ok.ch k t;have c0:=hd.code;have C:=hd.span;have s:=hd.lq;have j:=hd.jC k t;have hS:=ok.lo;have S:=ok.hi;have X:=ok.c0;obtain⟨D,E,N,P⟩:=lG ok.lo ok.hi F G;have J:=ok.kr k t;have l:dZ d k=d.span/4096*d.ch[k]?.getD 0:=rfl;have T:(k:Int)<40:=aa;have q1:d.span.tdiv 4096=d.span/4096:=jS aa;have R:=hd.dE.dC;by_cases b:d.code<dZ d k
 ·have f:cV d k=0:=by unfold cV;rw[if_pos b]
  have a:dQ d k={d with span:=dZ d k,ch:=d.ch.set k (bB (d.ch[k]?.getD 0) 0)}:=by unfold dQ;rw[if_pos b]
  rw[f];have m:=ag (Mn (d.ch[k]?.getD 0) · F G);have V:Hid (d.ch[k]?.getD 0=d.ch[k]?.getD 0):=rfl;generalize o:d.ch[k]?.getD 0=pp at c0 C s j F G D E b a m l;obtain⟨q,hq⟩:∃q,d.span/4096=q:=⟨_,rfl⟩;rw[hq] at D E N P q1 l;obtain⟨bb,hb⟩:∃bb,q*pp=bb:=⟨_,rfl⟩;rw[hb] at D E l;have w1:EV.wrap (q*pp)=bb:=yf;have I:wrap64 (q*pp)=bb:=yc;have H:=ag hd;have HM:=ag J;have RC:=ag a;have r:=ag o;rw[l] at b;have Fd:=ag l;clear hd J a l f o hb ok hq V;go_enter Gz.gf func99,ntmps99;go_wp2
  go_quiet(fail)
  have h1:=H.out.q ((Q.refl w).drewN nq);have u:al [g,h] w (w.drewN nq):=(al.refl _ _).drewN _;generalize w.drewN nq=w1 at h1 u⊢;have c0:=h1.code;have C:=h1.span;have s:=h1.lq;have v:=h1.free;have j:=h1.jC k t;rw[r.out] at j;have y:=h1.AW;go_wp2;have i:=h1.fA bb;have z:=u.set (p:=⟨g,1,ns⟩) (.inl au) (U O bb);generalize w1.setCell ⟨g,1,ns⟩ (U O bb)=I at i z⊢;clear h1 u c0 C s v j y;have s:=i.lq;have j:=i.jC k t;rw[show d.ch[k]?.getD 0=pp from r.out] at j;have y:=i.AW;have v:=i.free;have K:=ag i;have L:=ag z;clear i z;go_region_with (go_at_call 139;refine(m.out _).mono ?_;rintro e w'⟨rfl,rfl⟩);all_goals(have h3:=(K.out.lX k (bB pp 0)).q ((Q.refl _).drew);have x3:=(L.out.set (p:=⟨h,k,ns⟩) (.inl au) (U O (bB pp 0))).drew;generalize(I.setCell ⟨h,k,ns⟩ (U O (bB pp 0))).drew=M at h3 x3⊢;have h4:DS M g h (dQ d k) xs A c cc B p:=rM;clear s j y v;exact SH)
 ·have f:cV d k=1:=by unfold cV;rw[if_neg b]
  have a:dQ d k={d with code:=d.code-dZ d k,span:=d.span-dZ d k,ch:=d.ch.set k (bB (d.ch[k]?.getD 0) 1)}:=by unfold dQ;rw[if_neg b]
  rw[f];have m:=ag (Mo (d.ch[k]?.getD 0) · F G);generalize o:d.ch[k]?.getD 0=pp at c0 C s j F G D E b a m l;obtain⟨q,hq⟩:∃q,d.span/4096=q:=⟨_,rfl⟩;rw[hq] at D E N P q1 l;obtain⟨bb,hb⟩:∃bb,q*pp=bb:=⟨_,rfl⟩;rw[hb] at D E l;have w1:EV.wrap (q*pp)=bb:=yf;have I:wrap64 (q*pp)=bb:=yc;have H:=ag hd;have HM:=ag J;have RC:=ag a;have r:=ag o;rw[l] at b;have Fd:=ag l;clear hd J a l f o hb ok hq;go_enter Gz.gf func99,ntmps99;go_wp2
  go_quiet(fail)
  have h1:=H.out.q ((Q.refl w).drewN nq);have u:al [g,h] w (w.drewN nq):=(al.refl _ _).drewN _;generalize w.drewN nq=w1 at h1 u⊢;have c0:=h1.code;have C:=h1.span;have s:=h1.lq;have v:=h1.free;have j:=h1.jC k t;rw[r.out] at j;have y:=h1.AW;go_wp2;have i:=(h1.iA (d.code-bb)).fA (d.span-bb);have z:=(u.set (p:=⟨g,0,ns⟩) (.inl au) (U O (d.code-bb))).set (p:=⟨g,1,ns⟩) (.inl au) (U O (d.span-bb));generalize(w1.setCell ⟨g,0,ns⟩ (U O (d.code-bb))).setCell ⟨g,1,ns⟩ (U O (d.span-bb))=I at i z⊢;clear h1 u c0 C s v j y;have s:=i.lq;have j:=i.jC k t;rw[show d.ch[k]?.getD 0=pp from r.out] at j;have y:=i.AW;have v:=i.free;have K:=ag i;have L:=ag z;clear i z;go_region_with (go_at_call 139;refine(m.out _).mono ?_;rintro e w'⟨rfl,rfl⟩);all_goals(have h3:=(K.out.lX k (bB pp 1)).q ((Q.refl _).drew);have x3:=(L.out.set (p:=⟨h,k,ns⟩) (.inl au) (U O (bB pp 1))).drew;generalize(I.setCell ⟨h,k,ns⟩ (U O (bB pp 1))).drew=M at h3 x3⊢;have h4:DS M g h (dQ d k) xs A c cc B p:=rM;clear s j y v;exact SH)
end
section
open Go.RowKit Go.WideShapes Go.ChangeShapes
def zE:(Gz.prog.info? 5).map (λi=>(i.zero,i.size,i.bytes))=an (an (.int .u8 0),1,1):=aF
structure ES(w:rl)(g h:Nat)(e:bg)(B cc:Nat)(ov:AS):Prop where
 blk:ak w g 186 #[U O e.low,U O e.span,ov,Y (an ⟨h,0,ns⟩) 40 cc]
 out:aK w B ov e.out.length e.out
 dE:Own w B (Y (an ⟨h,0,ns⟩) 40 cc) 40 e.ch
 ne:g≠h
 og:ov.ownBlock≠an g
 oh:ov.ownBlock≠an h
 le:B<=g
def aa0(j:Nat){r:List Int}(a:x≠255):kh (so j 255++x::r)=so j 0++(x+1)::r:=by induction j with|zero=>rw[List.replicate_zero,ajr,List.replicate_zero,ajr,kh,if_neg a]|succ j b=>rw[List.replicate_succ,List.cons_append,kh,if_pos rfl,b];rfl
def Qw(j:Nat)(pre:List Int)(a:x≠255):gE (pre++[x]++so j 255)=pre++[x+1]++so j 0:=by unfold gE;rw[List.reverse_append,List.reverse_append,List.reverse_replicate,List.reverse_singleton,List.singleton_append,aa0 j a];simp
section
variable{w w':rl}{g h B cc:Nat}{e:bg}{ov:AS}
def ES.q(k:ES w g h e B cc ov)(hq:Q w w'):ES w' g h e B cc ov:=⟨k.blk.q hq,k.out.q hq,k.dE.q hq,k.ne,k.og,k.oh,k.le⟩
def ES.low(k:ES w g h e B cc ov):w.cell? ⟨g,0,ns⟩=an (U O e.low):=k.blk.cell 0
def ES.span(k:ES w g h e B cc ov):w.cell? ⟨g,1,ns⟩=an (U O e.span):=k.blk.cell 1
def ES.l6(k:ES w g h e B cc ov):w.cell? ⟨g,2,ns⟩=an ov:=k.blk.cell 2
def ES.lq(k:ES w g h e B cc ov):w.cell? ⟨g,3,ns⟩=an (Y (an ⟨h,0,ns⟩) 40 cc):=k.blk.cell 3
def ES.free(k:ES w g h e B cc ov)(i:Nat):w.frozen? ⟨g,i,ns⟩=false:=k.blk.free i
def jV(w:rl)(p:aic)(u:AS):w.grownBy (w.setCell p u) (an p.block):=⟨rfl,rfl,rfl,by simp[World.setCell],λi hi a=>im w p u i λe=>a om⟩
def ES.iA(k:ES w g h e B cc ov)(x:Int):ES (w.setCell ⟨g,0,ns⟩ (U O x)) g h {e with low:=x} B cc ov:=
 ⟨k.blk.set 0 _,k.out.other (jV w ⟨g,0,ns⟩ _) (.inr k.og),k.dE.other (jV w ⟨g,0,ns⟩ _) (.inr λe=>k.ne C3),k.ne,k.og,k.oh,k.le⟩
def ES.fA(k:ES w g h e B cc ov)(x:Int):ES (w.setCell ⟨g,1,ns⟩ (U O x)) g h {e with span:=x} B cc ov:=
 ⟨k.blk.set 1 _,k.out.other (jV w ⟨g,1,ns⟩ _) (.inr k.og),k.dE.other (jV w ⟨g,1,ns⟩ _) (.inr λe=>k.ne C3),k.ne,k.og,k.oh,k.le⟩
def ES.wI{o:Nat}(k:ES w g h {e with out:=xs} B cc (Y (an ⟨o,0,ns⟩) n c))(a:n=xs.length)(i:Nat)(x:Int):ES (w.setCell ⟨o,i,ns⟩ (.int .u8 x)) g h {e with out:=xs.set i x} B cc (Y (an ⟨o,0,ns⟩) n c):=by subst a;have b:g≠o:=λe=>k.og (by rw[e];rfl);have f:h≠o:=λe=>k.oh (by rw[e];rfl);refine⟨k.blk.aL b _,?_,k.dE.other (jV w ⟨o,i,ns⟩ _) (.inr λe=>f mw),k.ne,k.og,k.oh,k.le⟩;have:=k.out.set i x;rw[List.length_set];exact this
end
def ES.appended{W f:rl}{a i:Nat}{e:bg}(u:e.out.length=n)(k:ES w g h e B cc ov)(hq:Q w W)
  (j:f.ownsRow B 5 1 (Y (an ⟨a,0,ns⟩) (n+1) i) (n+1) (e.out.map (.int .u8)++[.int .u8 x]))(l:W.grownBy f ov.ownBlock)(b:ov.ownBlock=an a\/a=W.heap.size):
  ES (f.setCell ⟨g,2,ns⟩ (Y (an ⟨a,0,ns⟩) (n+1) i)) g h {e with out:=e.out++[x]} B cc (Y (an ⟨a,0,ns⟩) (n+1) i):=by
 subst u;have v:=k.blk.lt;have y:=k.dE.block.2;have z:=hq.size
 have m:a≠g:=by
  rcases b with o|o
  ·intro r;exact k.og (by rw[o,r])
  ·omega
 have s:a≠h:=by
  rcases b with o|o
  ·intro r;exact k.oh (by rw[o,r])
  ·omega
 have C:=(k.blk.q hq).grown l λe=>k.og e.symm;have t:=(k.dE.q hq).other l (.inr λe=>k.oh e.symm);have D:aK f B (Y (an ⟨a,0,ns⟩) (e.out.length+1) i) (e.out.length+1) (e.out++[x]):=⟨au,by simpa using j⟩;refine⟨C.set 2 _,?_,t.other (jV f ⟨g,2,ns⟩ _) (.inr λe=>k.ne C3),k.ne,λe=>m mw,λe=>s mw,k.le⟩;have:=D.other (jV f ⟨g,2,ns⟩ (Y (an ⟨a,0,ns⟩) (e.out.length+1) i)) (.inr λe=>m mw);rw[List.length_append];exact this
def Tn{p:Prop}(h:p:=by go_region_law (refine step_append_lies _ rfl _ _ 22 rfl B 5 i0 (.int .u8 0) 1 1 (Gz.gu underlying22) wJ t7 hz1 hz2 rfl (by decide) (.slice AA nn cA) nn (e.out.map (.int .u8)) (by rfl) (by first|exact(KO.out.alloc _).2|exact(KO.out.alloc _).drew.2|exact(KO.out.drew.alloc _).2) ⟨w.heap.size,0,none⟩ 1 1 [.int .u8 hi] (by rfl) (by rfl) (cell_one_new _ _ _) (λu hu=>by simp at hu;rw[hu];rfl) (by decide) (by unfold maxLen;omega) (by omega) (by simp;omega) _ rfl ?_;intro t y z b a f j;have l:=ag (ES.appended xc.out K.out (by exact(by repeat(first|exact Q.refl _|assumption|refine Q.drewN ?_ _|refine Q.drew ?_|refine Q.alloc ?_ _|refine Q.trans ?_ (by assumption)|refine Q.set ?_ (by first|exact ay _|omega|(simp;done)|(simp;omega)) _))) b a f);have i:=(K.out.blk.q (by exact(by repeat(first|exact Q.refl _|assumption|refine Q.drewN ?_ _|refine Q.drew ?_|refine Q.alloc ?_ _|refine Q.trans ?_ (by assumption)|refine Q.set ?_ (by first|exact ay _|omega|(simp;done)|(simp;omega)) _)))).grown a λe=>K.out.og e.symm;have m:=i.cell;have o:=i.free;have r:=ag (Q.grown (QQ.out.trans (by exact(by repeat(first|exact Q.refl _|assumption|refine Q.drewN ?_ _|refine Q.drew ?_|refine Q.alloc ?_ _|refine Q.trans ?_ (by assumption)|refine Q.set ?_ (by first|exact ay _|omega|(simp;done)|(simp;omega)) _)))) a λk s=>aQ hB (K.out.out.2.lt k s).1);clear b a f i);all_goals(go_wp2;refine bodyPost_end (v:=.tuple #[]) (by simp[results,results136,go_sem]) rfl ⟨rfl,⟨_,by rw[HP.out];exact l.out.iA (lo*256)⟩,(r.out.set (by have:=K.out.le;show W0.heap.size<=g;omega) _).set (by have:=K.out.le;show W0.heap.size<=g;omega) _⟩)):p:=h
def ad1{e:bg}(k:ES w g h e B cc ov)(ok:cT e)(q:Q W0 w)(hB:W0.heap.size<=B)(C:e.low<4294967296)(o:e.out.length<=1000000):
  ahR Gz.prog 136 #[d9 (an ⟨g,0,ns⟩)] w λr w'=>r=dl (em #[])/\(∃j,ES w' g h (cu e) B cc j)/\Q W0 w':=by
 have b:cu e={e with low:=e.low%16777216*256,out:=e.out++[e.low/16777216%256]}:=by unfold cu;rw[if_neg (by omega)]
 have m:=ok.l0;have c0:=k.low;have s:=k.l6;have t:e.low.tdiv 16777216=e.low/16777216:=jS m;have u:e.low.tmod 16777216=e.low%16777216:=Dy m;obtain⟨hi,f⟩:∃z,e.low/16777216=z:=⟨_,rfl⟩;obtain⟨lo,i⟩:∃z,e.low%16777216=z:=⟨_,rfl⟩;have D:0<=hi/\hi<=255:=aa;have E:0<=lo/\lo<=16777215:=aa;rw[f] at t b;rw[i] at u b;rw[show hi%256=hi by omega] at b;have F:akK.wrap hi=hi:=yg;have wi:EV.wrap hi=hi:=aD _ ⟨aa,aa⟩;obtain⟨AA,cA,rfl⟩:=k.out.form;obtain⟨nn,a⟩:∃z,e.out.length=z:=⟨_,rfl⟩;have l:=k.out;rw[a] at l s o k;have K:=ag k;have HP:=ag b;have QQ:=ag q;have v:B<=w.heap.size:=by have:=k.le;have:=k.blk.lt;omega
 obtain⟨i0,wJ,t7,hz1,hz2⟩:=info_parts zE;have y:=k.blk.lt;have xc:=ag a;have KO:=ag l;clear k b q f i l a;go_enter Gz.gf func136,ntmps136;go_wp2;exact Tn
def ad2{e:bg}(k:ES w g h e B cc ov)(ok:cT e)(q:Q W0 w)(hB:W0.heap.size<=B)(hl:4294967296<=e.low)(hn:e.out.length<=1000000):
  ahR Gz.prog 136 #[d9 (an ⟨g,0,ns⟩)] w λr w'=>r=dl (em #[])/\(∃Ii,ES w' g h (cu e) B cc Ii)/\Q W0 w':=by
 have I:cu e={e with low:=(e.low-4294967296)%16777216*256,out:=gE e.out++[(e.low-4294967296)/16777216%256]}:=by unfold cu;rw[if_pos (by omega)]
 have l0:=ok.l0;have l1:=ok.l1;have afX:=ok.lo;obtain⟨lw,m⟩:∃z,e.low-4294967296=z:=⟨_,rfl⟩;have t:0<=lw/\lw<4294967296:=aa;rw[m] at I;have c0:=k.low;have J:=k.l6;have hf:=k.free;have m1:lw.tdiv 16777216=lw/16777216:=jS t.1;have m2:lw.tmod 16777216=lw%16777216:=Dy t.1;obtain⟨hi,L⟩:∃z,lw/16777216=z:=⟨_,rfl⟩;obtain⟨lo,M⟩:∃z,lw%16777216=z:=⟨_,rfl⟩;have b1:0<=hi/\hi<=255:=aa;have b2:0<=lo/\lo<=16777215:=aa;rw[L] at m1 I;rw[M] at m2 I;rw[show hi%256=hi by omega] at I;have wb:akK.wrap hi=hi:=yg;have wi:EV.wrap hi=hi:=aD _ ⟨aa,aa⟩;obtain⟨i0,wJ,t7,hz1,hz2⟩:=info_parts zE;obtain⟨xr,N,Ij⟩:=ok.room hl
 have P:0<e.out.length:=by have:=List.length_pos_of_mem N;simpa using this
 rcases k.out.dC with⟨_,h0⟩|⟨o,co,rfl,Ur,BR,pv,Us⟩
 ·omega
 have K:=ag k;have QQ:=ag q;have HP:=ag I;have R:=ag ok;obtain⟨n,b⟩:∃n,e.out.length=n:=⟨_,rfl⟩;rw[b] at J hn P pv;have hni:(0:Int)<(n:Int):=aa;have s:=ag b;have S:=ag m;have wlw:wrap64 (e.low-4294967296)=lw:=by rw[m];exact ig ⟨by omega,by omega⟩
 clear k q I L M ok b m;go_enter Gz.gf func136,ntmps136;go_wp2;rw[S.out]
 have C:Hid (ES (w.setCell ⟨g,0,ns⟩ (U O lw)) g h {e with low:=lw} B cc (Y (an ⟨o,0,ns⟩) n co)):=by have:=K.out.iA lw;rw[s.out] at this;exact this
 have D:Hid (Q W0 (w.setCell ⟨g,0,ns⟩ (U O lw))):=QQ.out.set (by have:=K.out.le;show W0.heap.size<=g;omega) _;generalize w.setCell ⟨g,0,ns⟩ (U O lw)=w2 at C D⊢;clear BR c0 J hf;have T:Hid (∃x∈e.out.reverse,x≠255):=⟨xr,N,Ij⟩;have u:=ag R.out.out;go_loopw[2] (λi wr=>∃(j:Nat)(pre:List Int),j+pre.length=n/\i=U O ((n:Int)-1-(j:Int))/\Hid (e.out=pre++so j 255/\ES wr g h {e with low:=lw,out:=pre++so j 0} B cc (Y (an ⟨o,0,ns⟩) n co)/\Q W0 wr)) (λi _=>(intOf i+1).toNat)
 case atStart=>exact⟨0,e.out,by rw[s.out];omega,au,au,by simpa using C.out,D.out⟩
 case round=>
  obtain⟨j,pre,hj,rfl,hK⟩:=hrel;obtain⟨k1,k2,k3⟩:=hK.out;clear hK C D;rcases List.eq_nil_or_concat pre with rfl|⟨jp,x,rfl⟩
  ·obtain⟨y,hy,hyn⟩:=T.out;rw[k1] at hy;simp at hy;omega
  ·rw[List.concat_eq_append] at k1 k2 hj;have hpl:jp.length+1+j=n:=by simp at hj;omega
   have ra:=u.out x (by rw[k1];simp);obtain⟨p,hp⟩:∃p,jp.length=p:=⟨_,rfl⟩;have V:(n:Int)-1-(j:Int)=(p:Int):=aa;have Uk:(p:Int)<(n:Int):=aa;have hlen:(jp++[x]++so j 0).length=n:=av;have J:=k2.l6
   have E:aK wr B (Y (an ⟨o,0,ns⟩) n co) n (jp++[x]++so j 0):=by have h:=k2.out;dsimp only at h;rw[hlen] at h;exact h
   have cx:=E.at p aa;have pr:(jp++[x]++so j 0)[p]?.getD 0=x:=by subst hp;simp
   rw[pr] at cx;have fo:=E.free p;have xd:o≠g:=λh=>k2.og (by rw[<-h];rfl);have K1:=ag k1;have K3:=ag k3;rw[V];by_cases hx:x=255
   ·subst hx;have tS:=ES.wI (e:={e with low:=lw}) (xs:=jp++[255]++so j 0) k2 hlen.symm p 0
    have ii:(jp++[255]++so j 0).set p 0=jp++so (j+1) (0:Int):=by subst hp;simp[List.replicate_succ]
    rw[ii] at tS;have Uo:=ag tS;exact J4
   ·have Ua:(x==255)=false:=by simp[hx]
    have v:gE e.out=jp++[x+1]++so j 0:=by rw[K1.out,Qw j jp hx]
    have w8:akK.wrap (x+1)=x+1:=by show(x+1)%256=x+1;omega
    have K2:=ag k2;have HG:=ag pr;clear k1 k2 k3 pr
    have W:(jp++[x]++so j 0).set p (x+1)=gE e.out:=by rw[v];subst hp;simp
    go_wp2
    go_still_tail 13,aj
    change wpList _ _ _ _ _ wr.drew;have fo:(wr.drew).frozen? ⟨o,p,ns⟩=false:=fo;have cx:(wr.drew).cell? ⟨o,p,ns⟩=an (.int .u8 x):=cx;have a:=(ES.wI (e:={e with low:=lw}) (xs:=jp++[x]++so j 0) K2.out hlen.symm p (x+1)).q (Q.refl _).drew;rw[W] at a;have q5:Q W0 ((wr.setCell ⟨o,p,ns⟩ (.int .u8 (x+1))).drew):=(K3.out.set CI _).drew;have F:=ag a;have G:=ag q5;have X:Hid ((gE e.out).length=n):=by rw[Hid,Ap,s.out]
    clear a q5 W v hlen E J;go_wp2;generalize(wr.setCell ⟨o,p,ns⟩ (.int .u8 (x+1))).drew=w at F G⊢;have a:=F.out;have b:=X.out;obtain⟨Z,f⟩:∃z:bg,{e with low:=lw,out:=gE e.out}=z:=⟨_,rfl⟩;have xe:cu e={{Z with out:=Z.out++[hi]} with low:=lo*256}:=by rw[HP.out,<-f]
    have HP:=ag xe;have GU:Z.low=lw:=by rw[<-f]
    have l:Z.out.length=n:=by rw[<-f];exact b
    rw[f] at a;clear xe f b X F R u T s S;obtain⟨AA,Ut⟩:∃z:Option aic,an ⟨o,0,ns⟩=z:=⟨_,rfl⟩;rw[Ut] at a⊢;have K:=ag a;have QQ:=G;have c0:=a.low;rw[GU] at c0;have J:=a.l6;have E:=a.out;rw[l] at E;have KO:=ag E;have xc:=ag l;have rh:=a.blk.lt;have hBs:B<=w.heap.size:=by have:=a.le;omega
    obtain⟨nn,H⟩:∃z,n=z:=⟨_,rfl⟩;subst H;obtain⟨nn,H⟩:∃z,z=n:=⟨_,rfl⟩;subst H;obtain⟨cA,Ik⟩:∃z,z=co:=⟨_,rfl⟩;subst Ik;obtain⟨e,Il⟩:∃z,z=Z:=⟨_,rfl⟩;subst Il;clear a E l Ut G fo cx;exact Tn
end
section
open Go.RowKit Go.WideShapes Go.ChangeShapes
def shift(W0 w:rl)(g h B cc:Nat)(e:bg)(ov:AS)(k:ES w g h e B cc ov)(ok:cT e)(q:Q W0 w)(b:W0.heap.size<=B)(f:e.out.length<=1000000):
  ahR Gz.prog 136 #[d9 (an ⟨g,0,ns⟩)] w λr w'=>r=dl (em #[])/\(∃a,ES w' g h (cu e) B cc a)/\Q W0 w':=by
 by_cases i:e.low<4294967296
 ·exact ad1 k ok q b i f
 ·exact ad2 k ok q b aa f
def ES.lX{e:bg}(k:ES w g h e B cc ov)(i:Nat)(x:Int):ES (w.setCell ⟨h,i,ns⟩ (U O x)) g h {e with ch:=e.ch.set i x} B cc ov:=
 ⟨k.blk.aL k.ne _,k.out.other (jV w ⟨h,i,ns⟩ _) (.inr k.oh),k.dE.set i x,k.ne,k.og,k.oh,k.le⟩
def ES.je{e:bg}(k:ES w g h e B cc ov):kQ w g=(16777216-e.span).toNat:=CH
theorem zF{e:bg}(h1:4096<=e.span)(a:e.span<16777216):jK (lO e)=jK e:=by
 have b:(lO e).span=e.span*256:=rfl;unfold jK;by_cases h:e.span*256<16777216
 ·grind
 ·grind
def zV{e:bg}(h:¬e.span<16777216):jK e=e:=by unfold jK;rw[if_neg h]
def oZ(W0 w:rl)(g h B cc c n:Nat)(e:bg)(ov:AS)(k:ES w g h e B cc ov)(ok:cT e)(C:16777216<=e.span)(q:Q W0 w)(hB:W0.heap.size<=B)(D:c<40)(hn:e.out.length=n)(wZ:n<=900000):
  ahR Gz.prog 135 #[d9 (an ⟨g,0,ns⟩),bi #[U O (c:Int),U O 0]] w λr w'=>r=dl (em #[])/\(∃a,ES w' g h (ix e c 0) B cc a)/\Q W0 w':=by
 obtain⟨R,S⟩:=ok.ch c D;have rh:=k.blk.lt;have Im:=k.dE.block.2;have tT:=ok.hi;have In:=ok.l0;have Io:=ok.l1;obtain⟨T,l,b3,b4⟩:=lG C ok.hi R S;have hM:=ok.kr C c 0 D;have E:iO e c=e.span/4096*e.ch[c]?.getD 0:=rfl;have V:(c:Int)<40:=aa;have q1:e.span.tdiv 4096=e.span/4096:=jS aa;have b:iB e c 0={e with span:=iO e c,ch:=e.ch.set c (bB (e.ch[c]?.getD 0) 0)}:=by unfold iB;rw[if_pos rfl]
 have F:=ag (Mn (e.ch[c]?.getD 0) · R S);generalize m:e.ch[c]?.getD 0=pp at R S T l b F E;obtain⟨W,hq⟩:∃z,e.span/4096=z:=⟨_,rfl⟩;rw[hq] at T l b3 b4 q1 E;obtain⟨u,hb⟩:∃z,W*pp=z:=⟨_,rfl⟩;rw[hb] at T l E;have wa:EV.wrap (W*pp)=u:=yf;have wb:wrap64 (W*pp)=u:=(by rw[<-IntWalk.i64_left,wa]);have H:=ag k;have X:=ag q;have HM:=ag hM;have RC:=ag b;have G:=ag m;have Fd:=ag E;have Z:=ag hn;have c0:=k.low;have c1:=k.span;have I:=k.lq;have i:=k.dE.at c D;rw[m] at i;clear k hM b E m hb ok hq q hn;go_enter Gz.gf func135,ntmps135;go_wp2
 go_quiet(fail)
 (have o:Q w ((w.alloc (ap #[U O (c:Int),U O 0] 180)).drewN nq):=aU;have h1:=H.out.q o;have M:=(ak.new w 180 #[U O (c:Int),U O 0]).drewN nq;have x1:=X.out.trans o;generalize(w.alloc (ap #[U O (c:Int),U O 0] 180)).drewN nq=w1 at h1 x1 M⊢;clear o;have c0:=h1.low;have c1:=h1.span;have I:=h1.lq;have hf:=h1.free;have i:=h1.dE.at c D;rw[G.out] at i;have kf:=h1.dE.free c;have cb:=M.cell)
 go_wp2;have s:=h1.fA u;have t:=M.aL (p:=⟨g,1,ns⟩) m9 (U O u);have x2:=x1.set (p:=⟨g,1,ns⟩) Dj (U O u);generalize w1.setCell ⟨g,1,ns⟩ (U O u)=w2 at s x2 t⊢;clear h1 x1 M c0 c1 I hf i kf;have I:=s.lq;have i:=s.dE.at c D;rw[show e.ch[c]?.getD 0=pp from G.out] at i;have kf:=s.dE.free c;have hf:=s.free;have l:=t.cell;have H2:=ag s;have X2:=ag x2;clear s x2 t;have hlen:(c:Int)<40:=V;refine eo (λJ=>Q w2 J/\J.cell? ⟨g,3,ns⟩=an (Y (an ⟨h,0,ns⟩) 40 cc)/\J.cell? ⟨h,c,ns⟩=an (U O pp)/\J.cell? ⟨w.heap.size,0,ns⟩=an (U O (c:Int))/\J.cell? ⟨w.heap.size,1,ns⟩=an (U O 0)) (λj=>decide (17<=j)) aj ⟨(Q.refl _).drew,I,i,l 0,l 1⟩ λhS=>?_;refine ai 0 (h:=ai 1 (h:=ai 2 (h:=ai 3 (h:=ai 4 (h:=ai 5 (h:=ai 6 (h:=ai 7 (h:=ai 8 (h:=ai 9 (h:=ai 10 (h:=ai 11 (h:=ai 12 (h:=ai 13 (h:=ai 14 (h:=ai 15 (h:=?_))))))))))))))));refine bw (k:=16) aj rfl rfl λK2 K=>?_;go_simp;refine(F.out _).mono ?_;rintro e9 w9⟨rfl,rfl⟩;refine K.out _ _ hS λhS=>?_;clear K K2;refine bh ?_;refine gi [17,18] 17 aj aw rfl ?_;go_wp2;(have h3:=(H2.out.lX c (bB pp 0)).q ((Q.refl _).drew);have x3:=(X2.out.set (p:=⟨h,c,ns⟩) (by have:=H2.out.dE.block.1;show W0.heap.size<=h;omega) (U O (bB pp 0))).drew;generalize(w2.setCell ⟨h,c,ns⟩ (U O (bB pp 0))).drew=w4 at h3 x3⊢;have h4:ES w4 g h (iB e c 0) B cc ov:=rM;clear I i kf hf l;go_wp2;go_loopw[] (λwr=>∃(f:bg)(a:AS),Hid (ES wr g h f B cc a/\Q W0 wr/\cT f/\jK f=ix e c 0/\((f.out.length=n/\True)\/(f.out.length=n+1/\1048576<=f.span)\/(f.out.length=n+2/\16777216<=f.span)))) λwr=>kQ wr g;(case atStart=>exact⟨_,ov,h4,x3,HM.out,rfl,.inl ⟨by rw[RC.out];exact Z.out,trivial⟩⟩);(case round=>obtain⟨f,a,hK⟩:=hrel;obtain⟨y,N,L,k4,k5⟩:=hK.out;have e1:=y.span;have e2:=L.lo;have e3:=L.hi;have ri:=ag y.je;by_cases C:f.span<16777216;(case pos=>have K1:=ag y;have K2:=ag N;have K3:=ag L;have K5:=ag k5;have HT:=ag (shift W0 wr g h B cc f a y L N hB aa);clear y N L hK k5;go_wp2;refine HT.out.mono ?_;rintro e5 w5⟨rfl,⟨IR,P⟩,x5⟩;have f1:=P.span;have f2:=P.free;rw[vu f] at f1;have H5:=ag P;have X5:=ag x5;clear P x5;have wc:EV.wrap (f.span*256)=f.span*256:=aD _ ⟨aa,aa⟩;go_wp2;go_roundw;(case rel=>exact⟨lO f,IR,H5.out.fA (f.span*256),X5.out.set yB _,K3.out.grow C,(zF e2 C).trans k4,by have h6:=K5.out;have:=pZ f;show((cu f).out.length=n/\_)\/((cu f).out.length=n+1/\1048576<=f.span*256)\/((cu f).out.length=n+2/\16777216<=f.span*256);omega⟩);(case measure=>rw[ri.out,(H5.out.fA (f.span*256)).je];show(16777216-f.span*256).toNat<(16777216-f.span).toNat;omega));(case neg=>have e4:=(zV aa).symm.trans k4;subst e4;go_wp2;refine ajY (v:=em #[]) (by simp[results,results135,go_sem]) rfl ?_;exact⟨rfl,⟨_,y⟩,N⟩)))
def afY{e:bg}(k:ES w g h e B cc ov)(ok:cT e)(C:16777216<=e.span)(q:Q W0 w)(hB:W0.heap.size<=B)(D:c<40)(hn:e.out.length=n)(wZ:n<=900000):
  ahR Gz.prog 135 #[d9 (an ⟨g,0,ns⟩),bi #[U O (c:Int),U O 1]] w λr w'=>r=dl (em #[])/\(∃b,ES w' g h (ix e c 1) B cc b)/\Q W0 w':=by
 obtain⟨R,S⟩:=ok.ch c D;have rh:=k.blk.lt;have Im:=k.dE.block.2;have tT:=ok.hi;have In:=ok.l0;have Io:=ok.l1;obtain⟨T,m,b3,b4⟩:=lG C ok.hi R S;have hM:=ok.kr C c 1 D;have E:iO e c=e.span/4096*e.ch[c]?.getD 0:=rfl;have V:(c:Int)<40:=aa;have q1:e.span.tdiv 4096=e.span/4096:=jS aa;have i:iB e c 1={e with low:=e.low+iO e c,span:=e.span-iO e c,ch:=e.ch.set c (bB (e.ch[c]?.getD 0) 1)}:=by unfold iB;rw[if_neg (by decide)]
 have F:=ag (Mo (e.ch[c]?.getD 0) · R S);generalize o:e.ch[c]?.getD 0=pp at R S T m i F E;obtain⟨W,hq⟩:∃z,e.span/4096=z:=⟨_,rfl⟩;rw[hq] at T m b3 b4 q1 E;obtain⟨a,hb⟩:∃z,W*pp=z:=⟨_,rfl⟩;rw[hb] at T m E;have wa:EV.wrap (W*pp)=a:=yf;have wb:wrap64 (W*pp)=a:=(by rw[<-IntWalk.i64_left,wa]);have H:=ag k;have X:=ag q;have HM:=ag hM;have RC:=ag i;have G:=ag o;have Fd:=ag E;have Z:=ag hn;have c0:=k.low;have c1:=k.span;have I:=k.lq;have l:=k.dE.at c D;rw[o] at l;clear k hM i E o hb ok hq q hn;go_enter Gz.gf func135,ntmps135;go_wp2
 go_quiet(fail)
 (have s:Q w ((w.alloc (ap #[U O (c:Int),U O 1] 180)).drewN nq):=aU;have h1:=H.out.q s;have M:=(ak.new w 180 #[U O (c:Int),U O 1]).drewN nq;have x1:=X.out.trans s;generalize(w.alloc (ap #[U O (c:Int),U O 1] 180)).drewN nq=w1 at h1 x1 M⊢;clear s;have c0:=h1.low;have c1:=h1.span;have I:=h1.lq;have hf:=h1.free;have l:=h1.dE.at c D;rw[G.out] at l;have kf:=h1.dE.free c;have cb:=M.cell)
 go_wp2;have w2a:wrap64 (e.low+a)=e.low+a:=ig ⟨aa,aa⟩;have w2b:wrap64 (e.span-a)=e.span-a:=ig ⟨aa,aa⟩;have w2c:EV.wrap (e.low+a)=e.low+a:=aD _ ⟨aa,aa⟩;have w2d:EV.wrap (e.span-a)=e.span-a:=aD _ ⟨aa,aa⟩;have t:=(h1.iA (e.low+a)).fA (e.span-a);have u:=(M.aL (p:=⟨g,0,ns⟩) m9 (U O (e.low+a))).aL (p:=⟨g,1,ns⟩) m9 (U O (e.span-a));have x2:=(x1.set (p:=⟨g,0,ns⟩) Dj (U O (e.low+a))).set (p:=⟨g,1,ns⟩) Dj (U O (e.span-a));generalize(w1.setCell ⟨g,0,ns⟩ (U O (e.low+a))).setCell ⟨g,1,ns⟩ (U O (e.span-a))=w2 at t x2 u⊢;clear h1 x1 M c0 c1 I hf l kf;have I:=t.lq;have l:=t.dE.at c D;rw[show e.ch[c]?.getD 0=pp from G.out] at l;have kf:=t.dE.free c;have hf:=t.free;have m:=u.cell;have H2:=ag t;have X2:=ag x2;clear t x2 u;have hlen:(c:Int)<40:=V;refine eo (λJ=>Q w2 J/\J.cell? ⟨g,3,ns⟩=an (Y (an ⟨h,0,ns⟩) 40 cc)/\J.cell? ⟨h,c,ns⟩=an (U O pp)/\J.cell? ⟨w.heap.size,0,ns⟩=an (U O (c:Int))/\J.cell? ⟨w.heap.size,1,ns⟩=an (U O 1)) (λj=>decide (17<=j)) aj ⟨(Q.refl _).drew,I,l,m 0,m 1⟩ λhS=>?_;refine ai 0 (h:=ai 1 (h:=ai 2 (h:=ai 3 (h:=ai 4 (h:=ai 5 (h:=ai 6 (h:=ai 7 (h:=ai 8 (h:=ai 9 (h:=ai 10 (h:=ai 11 (h:=ai 12 (h:=ai 13 (h:=ai 14 (h:=ai 15 (h:=?_))))))))))))))));refine bw (k:=16) aj rfl rfl λK2 K=>?_;go_simp;refine(F.out _).mono ?_;rintro e9 w9⟨rfl,rfl⟩;refine K.out _ _ hS λhS=>?_;clear K K2;refine bh ?_;refine gi [17,18] 17 aj aw rfl ?_;go_wp2;(have h3:=(H2.out.lX c (bB pp 1)).q ((Q.refl _).drew);have x3:=(X2.out.set (p:=⟨h,c,ns⟩) (by have:=H2.out.dE.block.1;show W0.heap.size<=h;omega) (U O (bB pp 1))).drew;generalize(w2.setCell ⟨h,c,ns⟩ (U O (bB pp 1))).drew=w4 at h3 x3⊢;have h4:ES w4 g h (iB e c 1) B cc ov:=rM;clear I l kf hf m;go_wp2;go_loopw[] (λwr=>∃(f:bg)(b:AS),Hid (ES wr g h f B cc b/\Q W0 wr/\cT f/\jK f=ix e c 1/\((f.out.length=n/\True)\/(f.out.length=n+1/\1048576<=f.span)\/(f.out.length=n+2/\16777216<=f.span)))) λwr=>kQ wr g;(case atStart=>exact⟨_,ov,h4,x3,HM.out,rfl,.inl ⟨by rw[RC.out];exact Z.out,trivial⟩⟩);(case round=>obtain⟨f,b,hK⟩:=hrel;obtain⟨y,N,L,k4,k5⟩:=hK.out;have e1:=y.span;have e2:=L.lo;have e3:=L.hi;have ri:=ag y.je;by_cases C:f.span<16777216;(case pos=>have K1:=ag y;have K2:=ag N;have K3:=ag L;have K5:=ag k5;have HT:=ag (shift W0 wr g h B cc f b y L N hB aa);clear y N L hK k5;go_wp2;refine HT.out.mono ?_;rintro e5 w5⟨rfl,⟨IR,P⟩,x5⟩;have f1:=P.span;have f2:=P.free;rw[vu f] at f1;have H5:=ag P;have X5:=ag x5;clear P x5;have wc:EV.wrap (f.span*256)=f.span*256:=aD _ ⟨aa,aa⟩;go_wp2;go_roundw;(case rel=>exact⟨lO f,IR,H5.out.fA (f.span*256),X5.out.set yB _,K3.out.grow C,(zF e2 C).trans k4,by have h6:=K5.out;have:=pZ f;show((cu f).out.length=n/\_)\/((cu f).out.length=n+1/\1048576<=f.span*256)\/((cu f).out.length=n+2/\16777216<=f.span*256);omega⟩);(case measure=>rw[ri.out,(H5.out.fA (f.span*256)).je];show(16777216-f.span*256).toNat<(16777216-f.span).toNat;omega));(case neg=>have e4:=(zV aa).symm.trans k4;subst e4;go_wp2;refine ajY (v:=em #[]) (by simp[results,results135,go_sem]) rfl ?_;exact⟨rfl,⟨_,y⟩,N⟩)))
def put(W0 w:rl)(g h B cc c n:Nat)(b:Int)(e:bg)(ov:AS)(k:ES w g h e B cc ov)(ok:cT e)(i:16777216<=e.span)(q:Q W0 w)(j:W0.heap.size<=B)(l:c<40)(o:b=0\/b=1)(m:e.out.length=n)(a:n<=900000):
  ahR Gz.prog 135 #[d9 (an ⟨g,0,ns⟩),bi #[U O (c:Int),U O b]] w λr w'=>r=dl (em #[])/\(∃f,ES w' g h (ix e c b) B cc f)/\Q W0 w':=by
 rcases o with rfl|rfl
 ·exact oZ W0 w g h B cc c n e ov k ok i q j l m a
 ·exact afY k ok i q j l m a
end
section
open Go.RowKit Go.WideShapes Go.ChangeShapes
def Yu(h:az 180 2 w B (Y (an ⟨g,0,ns⟩) n c) n xs)(l:ib xs=true)(v:n<=20000):
  ahR Gz.prog 134 #[Y (an ⟨g,0,ns⟩) n c] w λe w'=>e=dl (ci true)/\Q w w':=by
 have m:=ag (sO n xs h.1 l);have H:=ag h;have o:(n:Int)<=20000:=aa;go_enter Gz.gf func134,ntmps134;go_wp2;go_loopw[3] (λi wr=>∃k:Nat,k<=n/\i=U O k/\Hid (Q w wr)) (λi _=>n-(intOf i).toNat)
 case atStart=>exact⟨0,aa,rfl,Q.refl _⟩
 case round=>
  obtain⟨k,z,rfl,hK⟩:=hrel;have hq:=hK.out;by_cases a:k<n
  ·have r:(k:Int)<n:=by omega
   obtain⟨f,j,s⟩:=m.out k a;have c0:=(H.out.q hq).cell (k*2) aa;have t:=(H.out.q hq).cell (k*2+1) aa;generalize xs[k*2]?.getD 0=x at f j c0;generalize xs[k*2+1]?.getD 0=y at s t;have u:=ag hq;go_wp2;refine(oH _ f j).mono ?_;rintro e w'⟨rfl,rfl⟩;go_wp2;refine(oH _ aa aa).mono ?_;rintro e w'⟨rfl,rfl⟩;go_wp2;go_roundw;case rel=>exact⟨k+1,aa,aJ,u.out⟩
   case measure=>exact bj
  ·have b:k=n:=by omega
   subst b;go_wp2;go_ret;exact⟨rfl,hq⟩
def XI(h:az 180 2 w B (Y (an ⟨g,0,ns⟩) n c) n xs)(K:ib xs=true)(hn:n<=20000):
  ahR Gz.prog 95 #[Y (an ⟨g,0,ns⟩) n c] w λe w'=>∃v',e=dl v'/\aK w' w.heap.size v' (l5 xs).length (l5 xs)/\Q w w':=by
 have HG:=ag (sO n xs h.1 K);have X:=Yu h K hn;have Z:=h.1;have H:=ag h;clear h K;go_enter Gz.gf func95,ntmps95;go_wp2;refine X.mono ?_;rintro e w0⟨rfl,L⟩;clear X;go_wp2;refine(Of).mono ?_;rintro e m⟨h,cc,rfl,M,q1⟩;go_wp2;have N:=L.size;have pm:=q1.size;have qY:=M.block;have P:Q w (m.alloc (ap #[U O 0,U O 4294967295,Y ns 0 0,Y (an ⟨h,0,ns⟩) 40 cc] 186)):=(L.trans q1).alloc _
 have es:ES (m.alloc (ap #[U O 0,U O 4294967295,Y ns 0 0,Y (an ⟨h,0,ns⟩) 40 cc] 186)) m.heap.size h jf w.heap.size cc (Y ns 0 0):=
  ⟨ak.new _ _ _,aK.nil _ _,(M.alloc _).mono N,aa,by simp[Value.ownBlock],by simp[Value.ownBlock],aa⟩
 generalize m.alloc (ap #[U O 0,U O 4294967295,Y ns 0 0,Y (an ⟨h,0,ns⟩) 40 cc] 186)=w2 at es P⊢;obtain⟨F,R⟩:∃z,m.heap.size=z:=⟨_,rfl⟩;rw[R] at es⊢;have o:=ag es;have Q0:=ag P;clear es P M q1 L;go_loopw[4] (λi wr=>∃(k:Nat)(e:bg)(ov:AS),k<=n/\i=U O k/\Hid (ES wr F h e w.heap.size cc ov/\Q w wr/\RE xs k e)) (λi _=>n-(intOf i).toNat)
 case atStart=>exact⟨0,jf,_,aa,rfl,o.out,Q0.out,RE.zero xs⟩
 case round=>
  obtain⟨k,e,ov,hk,rfl,hK⟩:=hrel;obtain⟨G,r,f⟩:=hK.out;clear hK o Q0;by_cases l:k<n
  ·have mp:(k:Int)<n:=by omega
   obtain⟨a1,a2,a3⟩:=HG.out k l;have hl:=H.out.q r;have a:=lE xs (k*2) aa;have b:=f.succ Z l a1 a2;generalize xs[k*2]?.getD 0=x at a1 a2 a b;generalize xs[k*2+1]?.getD 0=y at a3 a b;obtain⟨S,rfl⟩:∃S:Nat,x=(S:Int):=⟨x.toNat,aa⟩;rw[Int.toNat_natCast] at b;have HT:=ag (put w wr F h w.heap.size cc S e.out.length y e ov G f.ok f.span r (ay _) aa a3 rfl (by have:=f.len;omega));have Up:=ag b;clear b G r f;go_wp2_with(refine Di rfl rfl (k*2) rfl hl aa (Gz.gu underlying180) rfl zD ?_;rw[a]);exact J5
  ·have T:k=n:=by omega
   rw[T] at f;have s:=f.full Z;have t:=f.ok;have hle:=f.len;have u:=ag s;have v:=ag t;have K1:=ag G;have K2:=ag r;have E':¬(k:Int)<n:=aa;clear f G r s t;go_wp2;go_loopw[5] (λi wr=>∃(j:Nat)(ov:AS),j<=4/\i=U O j/\Hid (ES wr F h (mP j e) w.heap.size cc ov/\Q w wr)) (λi _=>4-(intOf i).toNat)
   case atStart=>exact⟨0,ov,aa,rfl,K1.out,K2.out⟩
   case round=>
    obtain⟨j,ov,hj,rfl,hK⟩:=hrel;obtain⟨y1,y2⟩:=hK.out;clear hK K1 K2;by_cases C:j<4
    ·have tQ:(j:Int)<4:=by omega
     have HT:=ag (shift w wr F h w.heap.size cc (mP j e) ov y1 (As j v.out) y2 (ay _) (by rw[zU];omega));exact J6
    ·have V:j=4:=by omega
     rw[V] at y1;have c2:=(y1.q ((Q.refl _).alloc (ap #[] 5))).l6;have hje:¬(j:Int)<4:=aa;have HE:Hid ((mP 4 e).out=l5 xs):=by rw[Hid,u.out];rfl
     have D:=zU 4 e;have I:=y1.out;obtain⟨J,E⟩:∃J,(mP 4 e).out=J:=⟨_,rfl⟩;rw[E] at I D HE;rcases I.dC with⟨_,h0⟩|⟨go,co,rfl,Ur,BR,pv,Us⟩
     ·omega
     have Uu:J.length<=100000:=aa;have HO:=ag I;clear D;have Y2:=ag y2;have W:=y2.size;clear y1 y2 I C l v u E;go_wp2_with(at_builtin;go_loud (refine uQ rfl rfl (Gz.gu underlying22) rfl (aK.jb _ w.heap.size W) ⟨go,0,ns⟩ J _ rfl rfl ?_ ?_ ?_ ?_;omega;(simp only[World.size_alloc];omega);(intro j hj;rw[show(⟨go,0,ns⟩:aic).add j=⟨go,j,ns⟩ by unfold Addr.add;simp;omega];exact(HO.out.alloc _).at j hj);intro v9 w9 O9 G9));go_ret;refine⟨v9,rfl,?_,?_⟩
     ·rw[<-HE.out];simpa using O9
     ·exact(Y2.out.alloc _).grown G9 (λk hk=>by have e:wr.heap.size=k:=aH hk;omega)
end
end Go.Proofs.Q0
