import Derived.Test.YtfmnlpedhgficaaGreatDoorK29
set_option maxRecDepth 100000
set_option maxHeartbeats 8000000
set_option linter.all false
open Go.Value renaming int->U,slice->Y,bool->a5,agg->a9,pointer->bi,tuple->ci,iface->em
open Go.IntKind renaming i64->O
open Go.Obj renaming cells->ac
open Go.Ending renaming returned->be
open And renaming intro->Vn
open Bool renaming false->Bz,true->AT
open Go renaming Addr->ajF,Calls->aiK,Value->so,World->AS
open Go.Value renaming ownBlock->alL,slice->aki
open List renaming getElem?_set_ne->akj,replicate->rl,take_of_length_le->ake
open Option renaming none->ns,some->an
namespace Go.Proofs
def M4{p:Prop}(h:p:=by
  go_wp2;go_roundw;case rel=>exact⟨k+1,aa,aF,HQ⟩
  case measure=>simp[intOf];omega):p:=h
def yS{p:Prop}(h:p:=by have:=r2.size;omega):p:=h
def L3{p:Prop}(h:p:=by(refine bA (k:=10) ah rfl rfl λK2 DE=>?_;refine MJ rfl rfl rfl rfl rfl nb rfl fH ah ?_;intro w9 b9 g9 s9;have o9:=o5.other g9 (.inr λe=>(by have h9:=L5 _ e;omega));have y9:=y.grown g9 λk e=>rV;replace y:=y9;refine DE.out _ _ ⟨y,(bR.q y).cell,r0 ⟨_,y⟩,r1 ⟨_,y⟩,r2 ⟨_,y⟩,r3 ⟨_,y⟩,r4 ⟨_,y⟩⟩ λhS=>?_;clear DE K2;refine bh ?_;refine iB [11] 11 ah al rfl ?_;clear hS;go_wp2;go_meet;exact⟨_,_,_,_,rfl,rfl,b9,o9,y,l5,aa,b9.lt⟩)):p:=h
def L8{p:Prop}(h:p:=by have U':=QU (show eN cs L keep (k+1)=none from HS.out) (n-(k+1));rw[show k+1+(n-(k+1))=n by omega] at U';rw[Hid,jD,if_pos (by rw[HN.out];exact HV.out),HN.out,U'];rfl):p:=h
end Go.Proofs
namespace Go.Proofs.Q0
open Go.Proofs.Tryz
variable{ls:List (List Int)}{v u:so}{lo hi B n B' k c:Nat}{w:AS}{A A':Option ajF}
section
open Go.RowKit Go.WideShapes Go.ChangeShapes
def fp.mono{w:AS}{lo a hi b:Nat}{v:so}{ls:List (List Int)}{vs:List so}(h:fp w lo hi v ls vs)(h1:a<=lo)(j:hi<=b):fp w a b v ls vs:=
 ⟨h.len,⟨h.row.1,h.row.2.imp id λ⟨g,e,f,l,m,o⟩=>⟨g,e,f,l,aI h1 m,o⟩⟩,λs d=>bH (h.top s d) j,λi hi=>(h.el i hi).mono h1,λi s hi d=>⟨bH (h.eh i s hi d).1 j,(h.eh i s hi d).2⟩,h.ne⟩
def fp.aN{vs:List so}(h:fp w lo hi v ls vs){p:ajF}(b:p.block<lo)(u:so):fp (w.setCell p u) lo hi v ls vs:=
 h.az ((au.refl [p.block] w).set (.inl aj) u) (λg a=>by simp at a;omega)
def aeV(W H q:Int)(I:Bool)(n c:Nat){l:Int}(b:dH w B A ls)(d:B<=w.heap.size)(f:ls.length=n)(h1:0<=l)(g:l<=1000000000000)(hm:n<=9223372036854775807):
  aiK Gz.prog 13 #[a9 #[U O W,U O H,a5 I,U O q,Y A n c],U O l] w λe w'=>(∃r:Int,e=be (U O r)/\(r<0\/(r=l-n-ej ls n/\0<=r)))/\Q w w':=by
 have h:=af (b.q ((Q.refl w).alloc (ac #[U O W,U O H,a5 I,U O q,Y A n c] 36)) d);clear b;go_enter Gz.gf func13,ntmps13;go_wp2;refine(acm c h.out f h1 g hm).mono ?_;rintro e w'⟨⟨r,rfl,a⟩,rfl⟩;have HR:=af a;by_cases h0:r<0
 ·clear a;go_wp2;go_ret;exact⟨⟨_,rfl,.inl aa⟩,aU⟩
 ·clear a;go_wp2;go_ret;exact⟨⟨_,rfl,HR.out⟩,aU⟩
def aeW(W H q:Int)(I:Bool)(c:Nat)(x:dH w B A ls)(y:B<=w.heap.size)(C:ls.length=n)(D:n<=1048576)(lt:ej ls n<=1048576):
  aiK Gz.prog 18 #[a9 #[U O W,U O H,a5 I,U O q,Y A n c]] w λe w'=>∃v vs,e=be (a9 #[U O W,U O H,a5 I,U O q,v])/\fp w' w.heap.size w'.heap.size v ls vs/\Q w w':=by
 subst C;have h:Q w (((w.alloc (ac #[U O W,U O H,a5 I,U O q,Y A ls.length c] 36)).alloc (ac #[U O 0,U O 0,a5 Bz,U O 0,Y ns 0 0] 44)).alloc (ac #[U O W,U O H,a5 I,U O q,Y ns 0 0] 44)):=aU;have m:=(ak.new (w.alloc (ac #[U O W,U O H,a5 I,U O q,Y A ls.length c] 36)) 44 #[U O 0,U O 0,a5 Bz,U O 0,Y ns 0 0]).alloc (ac #[U O W,U O H,a5 I,U O q,Y ns 0 0] 44);have o:=ak.new ((w.alloc (ac #[U O W,U O H,a5 I,U O q,Y A ls.length c] 36)).alloc (ac #[U O 0,U O 0,a5 Bz,U O 0,Y ns 0 0] 44)) 44 #[U O W,U O H,a5 I,U O q,Y ns 0 0];have d:(((w.alloc (ac #[U O W,U O H,a5 I,U O q,Y A ls.length c] 36)).alloc (ac #[U O 0,U O 0,a5 Bz,U O 0,Y ns 0 0] 44)).alloc (ac #[U O W,U O H,a5 I,U O q,Y ns 0 0] 44)).heap.size=w.heap.size+1+1+1:=aj;simp only[World.size_alloc] at m o;have E:=af (x.q h y);have r:=af d;clear x d;go_enter Gz.gf func18,ntmps18;go_wp2;refine(acn c E.out rfl D lt (aI y h.size)).mono ?_;rintro e i⟨v,vs,rfl,j,l⟩;obtain⟨a,b,rfl,F,G⟩:=j.form;rw[r.out] at j;have s:=m.q l;have d4:=o.q l;have J:=s.lt;have K:=d4.lt;have d5:ak (i.setCell ⟨w.heap.size+1+1,4,ns⟩ (Y a ls.length b)) (w.heap.size+1+1) 44 #[U O W,U O H,a5 I,U O q,Y a ls.length b]:=d4.set 4 _;have L:=s.aN (p:=⟨w.heap.size+1+1,4,ns⟩) rN (Y a ls.length b);have M:=af (j.aN (p:=⟨w.heap.size+1+1,4,ns⟩) (by show w.heap.size+1+1<w.heap.size+1+1+1;omega) (Y a ls.length b));have N:=af ((h.trans l).set (p:=⟨w.heap.size+1+1,4,ns⟩) rO (Y a ls.length b));have Z:=d4.cell;have f4:=d4.free;have e5:=d5.cell;have f:(i.setCell ⟨w.heap.size+1+1,4,ns⟩ (Y a ls.length b)).heap.size=i.heap.size:=uU;have t:=af f;clear m o h l j s d4 d5 f;go_wp2_with(refine eP (cs':=#[U O W,U O H,a5 I,U O q,Y a ls.length b]) rfl _ _ _ rfl rfl _ rfl rfl L rfl fH ah ?_;intro P R z S);have T:=R.cell;have V:P.heap.size=i.heap.size:=S.trans t.out;refine bodyPost_ret (v:=a9 #[U O W,U O H,a5 I,U O q,Y a ls.length b]) (by simp[results,results18,go_sem,T]) rfl ⟨_,vs,rfl,?_,?_⟩
 ·exact(M.out.az (au.dD z) λg X=>by simp at X;omega).mono aa aa
 ·exact N.out.grown z (λk e=>by have:=aJ e;omega)
def aeX(W H q:Int)(I:Bool)(c a:Nat)(f:dH w B A ls)(h:B<=w.heap.size)(g:dH w B' A' ls)(b:B'<=w.heap.size)(i:ls.length=n)(j:n<=1048576)(lt:ej ls n<=1048576):
  aiK Gz.prog 24 #[a9 #[U O W,U O H,a5 I,U O q,Y A n c],a9 #[U O W,U O H,a5 I,U O q,Y A' n a]] w λe w'=>e=be (a5 AT)/\Q w w':=by
 have d:Q w ((w.alloc (ac #[U O W,U O H,a5 I,U O q,Y A n c] 44)).alloc (ac #[U O W,U O H,a5 I,U O q,Y A' n a] 44)):=aU;have T:=af (ade c a (f.q d h) (g.q d b) i j lt);clear f g;cases I
 all_goals
  go_enter Gz.gf func24,ntmps24;go_wp2;refine T.out.mono ?_;rintro e w'⟨rfl,k,rfl⟩;go_wp2;go_ret;exact⟨rfl,d.drewN _⟩
end
section
open Go.RowKit Go.WideShapes Go.ChangeShapes
structure df where
 W:Int
 H:Int
 I:Bool
 q:Int
 ls:List (List Int)
def fp.nil(w:AS)(lo hi:Nat):fp w lo hi (Y ns 0 0) [] []:=⟨rfl,vw _ _ _ _,by simp[alL],aj,aj,aj⟩
def hQ:Kd df where
 t:=44
 s:=5
 cells c u:=[U O c.W,U O c.H,a5 c.I,U O c.q,u]
 len _ _:=rfl
 El w a b u c:=∃vs,fp w a b u c.ls vs
 Rd w B u c:=∃A n,u=Y A c.ls.length n/\c.ls.length<=n/\n<=maxLen/\dH w B A c.ls
 az h k hS:=let⟨vs,h⟩:=h;⟨vs,h.az k λg f=>(hS g f).symm⟩
 rd h i:=let⟨_,h⟩:=h;let⟨A,n,e,h1,d⟩:=h.form;⟨A,n,e,h1,d,h.rd e i⟩
 keep h j:=let⟨A,n,e,h1,d,l⟩:=h;⟨A,n,e,h1,d,l.keep j⟩
def kM(cs:List df)(k:Nat):Nat:=((cs.take k).map λc=>c.ls.length+ej c.ls c.ls.length).sum
def PO(cs:List df):kM cs 0=0:=by simp[kM]
def Ac{cs:List df}{c:df}(h:cs[k]?=an c):kM cs (k+1)=kM cs k+(c.ls.length+ej c.ls c.ls.length):=by unfold kM;rw[List.take_add_one,List.map_append,List.sum_append,h];simp
def adf(c:Nat)(l:Int){cs:List df}(d:iw hQ w B A cs)(s:B<=w.heap.size)(t:cs.length=n)(h1:0<=l)(X:l<=1000000000000)(hm:n<=9223372036854775807):
  aiK Gz.prog 4 #[Y A n c,U O l] w λe w'=>(∃r:Int,e=be (U O r)/\(r<0\/(r=l-n-kM cs n/\0<=r)))/\Q w w':=by
 have hw:IntKind.i64.wrap (l-(n:Int))=l-n:=aB _ ⟨aa,aa⟩;by_cases h:l<n
 ·have hd:decide (l-(n:Int)<0)=AT:=by simp;omega
  go_enter Gz.gf func4,ntmps4;go_wp2;go_ret;exact⟨⟨_,rfl,.inl aa⟩,Q.refl _⟩
 have G:=af d;have HN:=af t;clear d t;have hd:decide (l-(n:Int)<0)=Bz:=aA;go_enter Gz.gf func4,ntmps4;go_wp2;clear hw hd;go_loopw[1,5] (λx i wr=>∃(k:Nat)(z:Int),k<=n/\i=U O k/\x=U O z/\0<=z/\z<=l/\Hid (z=l-n-kM cs k)/\Q w wr) (λ_ i _=>n-(intOf i).toNat)
 case atStart=>exact⟨0,_,aa,rfl,rfl,aa,aa,by rw[Hid,PO];omega,Q.refl _⟩
 case round=>
  obtain⟨k,z,Z,rfl,rfl,y,z1,C,q⟩:=hrel;by_cases f:k<n
  ·have J:(k:Int)<n:=by omega
   obtain⟨b,o,rfl,hb,hc⟩:=G.out eD;obtain⟨x,d⟩:=fS HN.out f;obtain⟨u,⟨A',D,rfl,g1,K,L⟩,g⟩:=hc k x d;have g:wr.rangeAt b (o+k*5) [U O x.W,U O x.H,a5 x.I,U O x.q,Y A' x.ls.length D]:=λj v M=>(q.cell b _ aa).trans (g j v M);have E:=Ac d;unfold maxLen at K;have N:=af E;have T:=af (aeV x.W x.H x.q x.I x.ls.length D (L.q q s) (aI s q.size) rfl y aa aa);have P:=af q;clear hc E q;go_wp2_with(refine wpList_load_mid rfl 36 (.tmp 20) rfl b (o+k*5) rfl _ _ g (Gz.gu (Gz.gu underlying36)) rfl ah ?_);refine T.out.mono ?_;rintro e wn⟨⟨r,rfl,a⟩,m⟩;have F:=af (P.out.trans m);have HR:=af a;by_cases h0:r<0
   ·clear a m;go_wp2;go_ret;exact⟨⟨_,rfl,.inl aa⟩,F.out⟩
   ·have h9:(0:Int)<=x.ls.length:=by omega
    obtain⟨R,S⟩:=a.resolve_left h0;have h8:(0:Int)<=ej x.ls x.ls.length:=aa;have V:r<=l:=aa;clear a m R;go_wp2;go_roundw;case rel=>exact⟨k+1,r,aa,aF,rfl,S,V,by rw[Hid,N.out];have:=(HR.out.resolve_left aa).1;have:=C.out;omega,F.out⟩
    case measure=>exact aT
  ·have p:k=n:=by omega
   subst p;go_wp2;go_ret;exact⟨⟨_,rfl,.inr ⟨C.out,y⟩⟩,q⟩
def afX:(Gz.prog.info? 44).map (λi=>(i.zero,i.size,i.bytes))=an (an (a9 #[U O 0,U O 0,a5 Bz,U O 0,Y ns 0 0]),5,56):=ah
def zC:df:=⟨0,0,Bz,0,[]⟩
def bg.ag7{a:List so}(hr:w.ownsRow lo 44 5 v n a)(e:a=(madeCells #[U O 0,U O 0,a5 Bz,U O 0,Y ns 0 0] (n*5)).toList)(h0:∀s,v.ownBlock=an s->s<hi)(b:lo<=hi):bg hQ w lo hi v (rl n zC):=
 bg.make (u:=Y ns 0 0) (by rw[e,Kg (s:=5) rfl (by omega)] at hr;exact hr) ⟨[],fp.nil _ _ _⟩ h0 b
def adg{α:Type}{xs:List α}{x z:α}(a:xs[k]?=an x)(b:xs.length=n):(xs.take k++rl (n-k) z).set k x=xs.take (k+1)++rl (n-(k+1)) z:=by
 have d:k<n:=by rw[<-b];exact(ia.1 a).1
 rw[List.set_append_right _ _ aA,List.length_take,Nat.min_eq_left aa,Nat.sub_self,show n-k=(n-(k+1))+1 by omega,List.replicate_succ,List.set_cons_zero,List.take_add_one,a,List.append_assoc];rfl
def AE(A:Option ajF)(c:Nat){cs:List df}(l:iw hQ w B A cs)(R:cs.length=n)(G:n<=1048576)(S:∀(i:Nat)(x:df),cs[i]?=an x->x.ls.length<=1048576/\ej x.ls x.ls.length<=1048576)(V:B<=w.heap.size):
  aiK Gz.prog 6 #[Y A n c] w λe w'=>∃A' r,e=be (Y A' n r)/\bg hQ w' w.heap.size w'.heap.size (Y A' n r) cs/\Q w w':=by
 have HX:=af l;have HN:=af R;have HL:=af S;clear l R S;obtain⟨i0,hi,t,hz1,hz2⟩:=info_parts afX;have Hi:=af hi;clear hi;have J:=af t;clear t;have L:=af hz1;clear hz1;have xK:=af hz2;clear hz2;go_enter Gz.gf func6,ntmps6;go_wp2_with(at_make;refine wpList_make_full _ rfl (.tmp 6) (.tmp 6) 26 rfl w.heap.size 44 i0 _ 5 (Gz.gu underlying26) Hi.out J.out L.out .i64 .i64 n n n rfl rfl rfl rfl uW kT (av _) ?_;intro D d a)
 have X:Hid (Q w D/\w.heap.size<D.heap.size/\bg hQ D w.heap.size D.heap.size (Y (an ⟨w.heap.size,0,ns⟩) n n) (cs.take 0++rl (n-0) zC)):=
  ⟨Q.iS a,(d.lt _ rfl).2,bg.ag7 d rfl (λs e=>(d.lt s e).2) a.size⟩
 clear d a;go_loopw[4] (λi wr=>∃k:Nat,k<=n/\i=U O k/\Hid (Q w wr/\w.heap.size<wr.heap.size/\bg hQ wr w.heap.size wr.heap.size (Y (an ⟨w.heap.size,0,ns⟩) n n) (cs.take k++rl (n-k) zC))) (λi _=>n-(intOf i).toNat)
 case atStart=>exact⟨0,dk _,rfl,X⟩
 case round=>
  obtain⟨k,hk,rfl,hK⟩:=hrel;obtain⟨q,E,o⟩:=hK.out;clear X;by_cases y:k<n
  ·have i6:(k:Int)<n:=by omega
   obtain⟨b,Z,rfl,hb,hc⟩:=HX.out eD;obtain⟨x,l⟩:=fS HN.out y;obtain⟨u,⟨A',r,rfl,g1,g2,g3⟩,F⟩:=hc k x l;have F:wr.rangeAt b (Z+k*5) [U O x.W,U O x.H,a5 x.I,U O x.q,Y A' x.ls.length r]:=λj v hv=>(q.cell b _ aa).trans (F j v hv);obtain⟨l1,l2⟩:=HL.out k x l;have T:=af (aeW x.W x.H x.q x.I r (g3.q q V) (aI V q.size) rfl l1 l2);have KK:=af (Vn q (Vn E o));have M:=af l;clear hc q E o g1 g2 g3 l1 l2 hK l;go_wp2_with(refine wpList_load_mid rfl 36 (.tmp 18) rfl b (Z+k*5) rfl _ _ F (Gz.gu (Gz.gu underlying36)) rfl ah ?_);refine T.out.mono ?_;rintro e wn⟨v,vs,rfl,N,z⟩;obtain⟨m,p,rfl,_,_⟩:=N.form;obtain⟨q,E,o⟩:=KK.out;have G:(cs.take k++rl (n-k) zC).length=n:=by have:=HN.out;simp;omega
   obtain⟨g,C,hg,ht,f⟩:=(o.q z).put G y (K:=hQ) (u:=Y m x.ls.length p) (x:=x) ⟨vs,N⟩ (av _) (av _);injection C with C;injection C with C;subst C;have HP:=af (f _ z.size (av _) (av _));have HT:wn.there w.heap.size (k*5) 5:=ht;have Q5:=af (q.trans z);have S5:=af z.size;clear q E o N z ht f G F;go_wp2_with((with_reducible refine wpList_store_mid ?_ 44 (.tmp 21) (.tmp 20) ?_ w.heap.size (k*5) #[U O x.W,U O x.H,a5 x.I,U O x.q,Y m x.ls.length p] ?_ ?_ ?_ ?_ ?_ ?_);exact rfl;exact rfl;exact rfl;exact rfl;exact HT;kernel_rfl;simp[Value.oneCell'])
   have KZ:Hid (Q w (wn.setCells w.heap.size (k*5) [U O x.W,U O x.H,a5 x.I,U O x.q,Y m x.ls.length p])/\w.heap.size<(wn.setCells w.heap.size (k*5) [U O x.W,U O x.H,a5 x.I,U O x.q,Y m x.ls.length p]).heap.size/\
     bg hQ (wn.setCells w.heap.size (k*5) [U O x.W,U O x.H,a5 x.I,U O x.q,Y m x.ls.length p]) w.heap.size (wn.setCells w.heap.size (k*5) [U O x.W,U O x.H,a5 x.I,U O x.q,Y m x.ls.length p]).heap.size (Y (an ⟨w.heap.size,0,ns⟩) n n) (cs.take (k+1)++rl (n-(k+1)) zC)):=by
    rw[Hid,M3];have h:=HP.out;rw[adg M.out HN.out] at h;exact⟨Q5.out.grown (r7 _ _ _ _).1 (λg e=>by have:=aJ e;omega),by have:=S5.out;have:=KK.out.2.1;omega,h⟩
   clear HP Q5 S5 KK HT;go_roundw;case rel=>exact⟨k+1,aa,aF,KZ⟩
   case measure=>exact aT
  ·have P:k=n:=by omega
   subst P;go_wp2;go_ret;exact⟨_,_,rfl,by simpa[ake (Nat.le_of_eq HN.out)] using o,q⟩
def Io{b o:Nat}{v0 v1 v2 v3 v4:so}(h:w.rangeAt b o [v0,v1,v2,v3,v4])(a:b<w.heap.size):(∀y:eM w,y.at_.cell? ⟨b,o,ns⟩=an v0)/\(∀y:eM w,y.at_.cell? ⟨b,o+1,ns⟩=an v1)/\(∀y:eM w,y.at_.cell? ⟨b,o+2,ns⟩=an v2)/\(∀y:eM w,y.at_.cell? ⟨b,o+3,ns⟩=an v3)/\∀y:eM w,y.at_.cell? ⟨b,o+4,ns⟩=an v4:=
 ⟨λy=>(y.q.cell b o a).trans (h 0 _ rfl),λy=>(y.q.cell b _ a).trans (h 1 _ rfl),λy=>(y.q.cell b _ a).trans (h 2 _ rfl),λy=>(y.q.cell b _ a).trans (h 3 _ rfl),λy=>(y.q.cell b _ a).trans (h 4 _ rfl)⟩
def adh{L:Nat}{cs:List df}(a:iw hQ w B A cs)(r:iw hQ w B' A' cs)(h:B<=w.heap.size)(d:B'<=w.heap.size)(s:cs.length=n)(lx:n<=1048576)(t:∀(i:Nat)(x:df),cs[i]?=an x->x.ls.length<=1048576/\ej x.ls x.ls.length<=1048576):
  aiK Gz.prog 9 #[Y A n c,Y A' n L] w λe w'=>e=be (a5 AT)/\Q w w':=by
 have M:=af a;have N:=af r;have HN:=af s;have P:=af t;clear a r s t;go_enter Gz.gf func9,ntmps9;go_wp2;go_loopw[5] (λi wr=>∃(k:Nat),k<=n/\i=U O k/\Hid (Q w wr)) (λi _=>n-(intOf i).toNat)
 case atStart=>exact⟨0,aa,rfl,Q.refl _⟩
 case round=>
  obtain⟨k,hk,rfl,hq⟩:=hrel;by_cases l:k<n
  ·have R:(k:Int)<n:=by omega
   have q:=hq.out;obtain⟨b,o,rfl,S,hc⟩:=M.out eD;obtain⟨z,V,rfl,m,f⟩:=N.out eD;obtain⟨x,a⟩:=fS HN.out l;obtain⟨u,⟨X,C,rfl,_,_,D⟩,E⟩:=hc k x a;obtain⟨u',⟨Z,F,rfl,_,_,G⟩,g⟩:=f k x a;obtain⟨r0,r1,r2,r3,r4⟩:=Io (w:=wr) (b:=b) (o:=o+k*5) (v0:=U O x.W) (v1:=U O x.H) (v2:=a5 x.I) (v3:=U O x.q) (v4:=Y X x.ls.length C) (λj v p=>(q.cell b _ aa).trans (E j v p)) (bH S (aI h q.size));obtain⟨s0,s1,s2,s3,s4⟩:=Io (w:=wr) (b:=z) (o:=V+k*5) (v0:=U O x.W) (v1:=U O x.H) (v2:=a5 x.I) (v3:=U O x.q) (v4:=Y Z x.ls.length F) (λj v p=>(q.cell z _ aa).trans (g j v p)) (bH m (aI d q.size));obtain⟨J,K⟩:=P.out k x a;have T:=af λy:eM wr=>aeX x.W x.H x.q x.I C F (D.q (q.trans y.q) h) (aI h (q.trans y.q).size) (G.q (q.trans y.q) d) (aI d (q.trans y.q).size) rfl J K;clear hc f D G E g J K a q;go_wp2;refine pS ah ah ?_;repeat(go_big_quiet_step ((go_at_call 24;exact Calls.fG (T.out _))))
   refine wpQuiet_nil ?_;rintro w7⟨⟨_,q7⟩,rfl⟩;have HQ:=af (hq.out.trans q7);clear r0 r1 r2 r3 r4 s0 s1 s2 s3 s4 T hq;exact M4
  ·go_wp2;go_ret;exact⟨rfl,hq.out⟩
def Gi(cs:List df)(k:Nat):∀d,kM cs k<=kM cs (k+d)
 |0=>av _
 |d+1=>by
  refine aI (Gi cs k d) ?_;cases h:cs[k+d]? with
  |some c=>rw[show k+(d+1)=(k+d)+1 by omega,Ac h];omega
  |none=>have:=List.getElem?_eq_none_iff.1 h;unfold kM;rw[ake aa,ake aa];exact av _
def aan(M:Int){cs:List df}(b:bg hQ w lo hi (Y A n c) cs)(N:cs.length=n)(lx:n<=1048576)(lt:kM cs n<=1048576)(hl:∀(i:Nat)(x:df),cs[i]?=an x->x.ls.length<=1048576/\ej x.ls x.ls.length<=1048576)(P:0<=M)(rx:M<=1000000)(Q:hi<=w.heap.size):
  aiK Gz.prog 10 #[Y A n c,U O M] w λe w'=>∃r:Int,e=be (U O r)/\0<=r/\∃S:List Nat,(∀s,s∈S->lo<=s/\s<hi)/\au S w w':=by
 obtain⟨h0,us,d,h1,G,h3,h4⟩:=b;rw[N] at G;have HN:=af N;have H0:=af h0;have H1:=af h1;have H3:=af h3;have H4:=af h4;have HL:=af hl;have HT:=af lt;have K0:Hid (∃(l:List so)(S:List Nat),w.ownsRow lo 44 5 (Y A n c) n l/\(∀i,0*5<=i->l[i]?=(eH hQ cs us)[i]?)/\au S w w/\∀s,s∈S->(aki A n c).ownBlock=an s\/∃i,i<0/\(d i).1<=s/\s<(d i).2):=⟨_,[],G,λ_ _=>rfl,au.refl _ _,aj⟩;have H2:=af G;clear N h0 h1 G h3 h4 hl lt;go_enter Gz.gf func10,ntmps10;go_wp2;go_loopw[1,5] (λx i wr=>∃(k:Nat)(z:Int),k<=n/\i=U O k/\x=U O z/\0<=z/\Hid (z<=1000000+4*k+kM cs k)/\Hid (∃(l:List so)(S:List Nat),wr.ownsRow lo 44 5 (Y A n c) n l/\(∀i,k*5<=i->l[i]?=(eH hQ cs us)[i]?)/\au S w wr/\∀s,s∈S->(aki A n c).ownBlock=an s\/∃i,i<k/\(d i).1<=s/\s<(d i).2)) (λ_ i _=>n-(intOf i).toNat)
 case atStart=>exact⟨0,_,aa,rfl,rfl,P,by rw[Hid,PO];omega,K0⟩
 case round=>
  obtain⟨k,z,hk,rfl,rfl,z0,hz,hK⟩:=hrel;clear K0;by_cases C:k<n
  ·have i6:(k:Int)<n:=by omega
   obtain⟨l,S,f,y,m,t⟩:=hK.out;obtain⟨g,cap,hg,hb,uv⟩:=f.form aa;injection hg with e1 e2 e3;subst e1 e3;obtain⟨x,b⟩:=fS HN.out C;obtain⟨u,hu⟩:=fS (H1.out.trans HN.out) C;obtain⟨⟨vs,R⟩,J,D,m3⟩:=H3.out k x u b hu;obtain⟨E,F,rfl,_,_⟩:=R.form;obtain⟨l1,l2⟩:=HL.out k x b;have hz1:z<=10000000:=by have:=hz.out;have:=Gi cs k (n-k);rw[show k+(n-k)=n by omega] at this;have:=HT.out;omega
   have cell:∀j,j<5->wr.cell? ⟨g,k*5+j,ns⟩=([U O x.W,U O x.H,a5 x.I,U O x.q,Y E x.ls.length F]:List so)[j]?:=λj hj=>by rw[f.cellAt _ aa,y _ aa];exact Fi (K:=hQ) b hu hj
   have c0:wr.cell? ⟨g,k*5,ns⟩=an (U O x.W):=cell 0 aa;have T:wr.cell? ⟨g,k*5+1,ns⟩=an (U O x.H):=cell 1 aa;have V:wr.cell? ⟨g,k*5+2,ns⟩=an (a5 x.I):=cell 2 aa;have X:wr.cell? ⟨g,k*5+3,ns⟩=an (U O x.q):=cell 3 aa;have Z:wr.cell? ⟨g,k*5+4,ns⟩=an (Y E x.ls.length F):=cell 4 aa;have f0:=f.frozenAt (k*5);have f1:=f.frozenAt (k*5+1);have f2:=f.frozenAt (k*5+2);have f3:=f.frozenAt (k*5+3);have hgs:g∉[]:=aj;have o:g<(d k).1\/(d k).2<=g:=m3 g rfl
   have hO:∀W':AS,au [g] wr W'->fp W' (d k).1 (d k).2 (Y E x.ls.length F) x.ls vs:=λW' e=>(R.az m (λs a=>by
     rcases t s a with h|⟨i,hi,h5,h6⟩
     ·have h:g=s:=by simpa[alL] using h
      omega
     ·have:=H4.out i k aa eD eD;omega)).az e (λs a=>by simp at a;omega)
   have cM:(d k).2<=wr.heap.size:=aI D (aI Q m.size);have HO:=af hO;have HC:=af (Vn f (Vn y (Vn m (Vn t (Vn o (Vn b (Vn J D)))))));clear f y m t R J D m3 cell hO b hu o hgs;go_wp2
   have L:au [g] wr ((((wr.setCell ⟨g,k*5,ns⟩ (U O z)).setCell ⟨g,k*5+1,ns⟩ (U O (z+1))).setCell ⟨g,k*5+2,ns⟩ (a5 ((z+1+1)%3==0))).setCell ⟨g,k*5+3,ns⟩ (U O (z+1+1+1))):=
    ((((au.refl [g] wr).set (p:=⟨g,k*5,ns⟩) (.inl aj) _).set (p:=⟨g,k*5+1,ns⟩) (.inl aj) _).set (p:=⟨g,k*5+2,ns⟩) (.inl aj) _).set (p:=⟨g,k*5+3,ns⟩) (.inl aj) _
   have hR:=(((HC.out.1.stored (k*5) (U O z)).1.stored (k*5+1) (U O (z+1))).1.stored (k*5+2) (a5 ((z+1+1)%3==0))).1.stored (k*5+3) (U O (z+1+1+1));refine(aam (Y E x.ls.length F) vs F E (HO.out _ L) aa aa l2 rfl l1 (aI cM L.size)).mono ?_;rintro e w5⟨rfl,S5,s5,x5⟩;obtain⟨f,y,m,t,o,b,J,D⟩:=HC.out
   have K5:Hid (∃(l:List so)(S:List Nat),w5.ownsRow lo 44 5 (Y (an ⟨g,0,ns⟩) n c) n l/\(∀i,(k+1)*5<=i->l[i]?=(eH hQ cs us)[i]?)/\au S w w5/\∀s,s∈S->(aki (an ⟨g,0,ns⟩) n c).ownBlock=an s\/∃i,i<k+1/\(d i).1<=s/\s<(d i).2):=by
    refine⟨_,g::(S++S5),Bf (hi:=hi) hR.1 x5 (λq hq e=>by simp[alL] at e;have:=s5 q hq;omega),λi hi=>?_,((m.more λk h=>by simp[h]).trans ((L.more λk h=>by simp at h;simp[h]).trans (x5.more λk h=>by simp[h]))),λs a=>?_⟩
    ·rw[akj aa,akj aa,akj aa,akj aa];exact y i aa
    ·rcases jH.1 a with rfl|a
     ·exact .inl rfl
     ·rcases vB.1 a with a|a
      ·exact(t s a).imp_right λ⟨i,h5,h6⟩=>⟨i,aa,h6⟩
      ·exact .inr ⟨k,aa,s5 s a⟩
   have hz2:=Ac b;have HZ:=af hz2;clear L hR x5 s5 f y m t o b J D hz2 HC HO c0 T V X Z f0 f1 f2 f3;go_wp2;go_roundw;case rel=>exact⟨k+1,_,aa,aF,rfl,aa,by rw[Hid,HZ.out];have:=hz.out;omega,K5⟩
   case measure=>exact aT
  ·go_wp2;go_ret;obtain⟨l,S,f,_,m,t⟩:=hK.out;refine⟨_,rfl,z0,S,λs a=>?_,m⟩;rcases t s a with h|⟨i,h5,h6,h7⟩
   ·exact⟨(H2.out.lt s h).1,H0.out s h⟩
   ·obtain⟨x,b⟩:=fS HN.out (show i<n by omega);obtain⟨u,hu⟩:=fS (H1.out.trans HN.out) (show i<n by omega);have:=H3.out i x u b hu;omega
end
section
open Go.RowKit Go.WideShapes Go.ChangeShapes
structure dp where
 W:Int
 H:Int
 xs:List Int
def Own.cap{xs:List Int}(h:Own w B v n xs):∃A c,v=Y A n c/\n<=c/\c<=maxLen:=by
 rcases h.dE with⟨e,h0⟩|⟨g,c,e,_,_,h1,a⟩
 ·exact⟨ns,0,by rw[e,h0],aa,dk _⟩
 ·exact⟨_,_,e,h1,a⟩
def di:Kd dp where
 t:=40
 s:=3
 cells p u:=[U O p.W,U O p.H,u]
 len _ _:=rfl
 El w a b u p:=Own w a u p.xs.length p.xs/\∀s,u.ownBlock=an s->s<b
 Rd w B u p:=∃A n,u=Y A p.xs.length n/\p.xs.length<=n/\n<=maxLen/\Rd w B A p.xs
 az h k hS:=⟨⟨h.1.1,Bf (hi:=0) h.1.2 k λg f e=>by have:=hS g f;have:=h.2 g e;have:=(h.1.2.lt g e).1;omega⟩,h.2⟩
 rd h _:=let⟨A,n,e,h1,d⟩:=h.1.cap;⟨A,n,e,h1,d,(e▸h.1).rd⟩
 keep h i:=let⟨A,n,e,h1,d,j⟩:=h;⟨A,n,e,h1,d,j.keep i⟩
def UL{b o:Nat}{v0 v1 v2:so}(h:w.rangeAt b o [v0,v1,v2])(a:b<w.heap.size):(∀y:eM w,y.at_.cell? ⟨b,o,ns⟩=an v0)/\(∀y:eM w,y.at_.cell? ⟨b,o+1,ns⟩=an v1)/\∀y:eM w,y.at_.cell? ⟨b,o+2,ns⟩=an v2:=
 ⟨λy=>(y.q.cell b o a).trans (h 0 _ rfl),λy=>(y.q.cell b _ a).trans (h 1 _ rfl),λy=>(y.q.cell b _ a).trans (h 2 _ rfl)⟩
def EK{K:Nat}{h:List dp}(d:iw di w B A h)(z:iw di w B' A' h)(l:B<=w.heap.size)(a:B'<=w.heap.size)(C:h.length=n)(lx:n<=1048576):
  aiK Gz.prog 8 #[Y A n c,Y A' n K] w λe w'=>e=be (a5 AT)/\Q w w':=by
 have L:=af d;have M:=af z;have HN:=af C;clear d z C;go_enter Gz.gf func8,ntmps8;go_wp2;go_loopw[5] (λi wr=>∃(k:Nat),k<=n/\i=U O k/\Hid (Q w wr)) (λi _=>n-(intOf i).toNat)
 case atStart=>exact⟨0,aa,rfl,Q.refl _⟩
 case round=>
  obtain⟨k,hk,rfl,hq⟩:=hrel;by_cases m:k<n
  ·have N:(k:Int)<n:=by omega
   have q:=hq.out;obtain⟨b,o,rfl,P,hc⟩:=L.out eD;obtain⟨D,R,rfl,p,f⟩:=M.out eD;obtain⟨x,d⟩:=fS HN.out m;obtain⟨u,⟨S,E,rfl,r,s,F⟩,G⟩:=hc k x d;obtain⟨u',⟨V,I,rfl,_,_,J⟩,g⟩:=f k x d;obtain⟨X,Z,r2⟩:=UL (w:=wr) (b:=b) (o:=o+k*3) (v0:=U O x.W) (v1:=U O x.H) (v2:=Y S x.xs.length E) (λj v t=>(q.cell b _ aa).trans (G j v t)) (bH P (aI l q.size));obtain⟨s0,s1,s2⟩:=UL (w:=wr) (b:=D) (o:=R+k*3) (v0:=U O x.W) (v1:=U O x.H) (v2:=Y V x.xs.length I) (λj v t=>(q.cell D _ aa).trans (g j v t)) (bH p (aI a q.size));have T:=af (λy:eM wr=>abq x.W x.H x.W x.H E I AT (F.q (q.trans y.q) l) (aI l (q.trans y.q).size) (J.q (q.trans y.q) a) (aI a (q.trans y.q).size) rfl rfl (aI r s) (aI r s) (by simp[Hid]));clear hc f F J G g d q r s;go_wp2;refine pS ah ah ?_;repeat(go_big_quiet_step ((go_at_call 23;exact Calls.fG (T.out _))))
   refine wpQuiet_nil ?_;rintro w7⟨⟨_,q7⟩,rfl⟩;have HQ:=af (hq.out.trans q7);clear X Z r2 s0 s1 s2 T hq;exact M4
  ·go_wp2;go_ret;exact⟨rfl,hq.out⟩
def jE(a:List dp)(b:Int):Nat->Int
 |0=>b
 |i+1=>jE a b i+2+((a[i]?.map λp=>p.xs.length).getD 0:Nat)
def uO(a:List dp)(b:Int)(i:Nat):dp:=⟨jE a b i,jE a b i+1,eS (jE a b i+2) ((a[i]?.map λp=>p.xs.length).getD 0)⟩
def j5(a:List dp)(b:Int):Nat->List dp
 |0=>a
 |k+1=>(j5 a b k).set k (uO a b k)
def Bg(a:List dp)(b:Int):∀k,(j5 a b k).length=a.length
 |0=>rfl
 |k+1=>by rw[j5,List.length_set,Bg]
def S9(a:List dp)(b:Int):∀(k i:Nat),k<=i->(j5 a b k)[i]?=a[i]?
 |0,_,_=>rfl
 |k+1,i,h=>by rw[j5,akj aa,S9 a b k i aa]
def Ta(a:List dp)(b:Int)(i:Nat)(hi:i<a.length):∀d,(j5 a b (i+1+d))[i]?=an (uO a b i)
 |0=>by rw[Nat.add_zero,j5,List.getElem?_set_self (by rw[Bg];exact hi)]
 |d+1=>by rw[show i+1+(d+1)=(i+1+d)+1 by omega,j5,akj aa,Ta a b i hi d]
def tB{α:Type}{K:Kd α}{g j:Nat}{a:List so}{x:α}(hr:w.ownsRow lo K.t K.s (Y (an ⟨g,0,ns⟩) n c) n a)(d:k<n)(b:j<K.s)(h:∀j,j<K.s->a[k*K.s+j]?=(K.cells x u)[j]?):w.cell? ⟨g,k*K.s+j,ns⟩=(K.cells x u)[j]?:=by have:(k+1)*K.s<=n*K.s:=pN _ aa;rw[Nat.add_mul] at this;rw[hr.cellAt _ aa,h j b]
def Yy(f:Int){j:List dp}(l:bg di w lo hi (Y A n c) j)(hn:j.length=n)(lx:n<=8)(hl:∀(i:Nat)(x:dp),j[i]?=an x->x.xs.length<=1024)(M:0<=f)(rx:f<=1000000)(uq:hi<=w.heap.size):
  aiK Gz.prog 11 #[Y A n c,U O f] w λe w'=>e=be (U O (jE j f n))/\bg di w' lo hi (Y A n c) (j5 j f n)/\∃S:List Nat,(∀s,s∈S->lo<=s/\s<hi)/\au S w w':=by
 have HN:=af hn;have HL:=af hl;have K0:Hid (bg di w lo hi (Y A n c) (j5 j f 0)/\∃S:List Nat,(∀s,s∈S->lo<=s/\s<hi)/\au S w w):=⟨l,[],aj,au.refl _ _⟩;clear hn hl l;go_enter Gz.gf func11,ntmps11;go_wp2;go_loopw[1,5] (λx i wr=>∃(k:Nat)(z:Int),k<=n/\i=U O k/\x=U O z/\0<=z/\z<=1000000+1026*k/\Hid (z=jE j f k)/\Hid (bg di wr lo hi (Y A n c) (j5 j f k)/\∃S:List Nat,(∀s,s∈S->lo<=s/\s<hi)/\au S w wr)) (λ_ i _=>n-(intOf i).toNat)
 case atStart=>exact⟨0,_,aa,rfl,rfl,M,aa,rfl,K0⟩
 case round=>
  obtain⟨k,z,hk,rfl,rfl,z0,z1,N,hK⟩:=hrel;clear K0;by_cases t:k<n
  ·have i6:(k:Int)<n:=by omega
   obtain⟨o,S,s1,s2⟩:=hK.out;obtain⟨x,l⟩:=fS HN.out t;obtain⟨g,P,u,a,b,rfl,g1,g2,g3,r,⟨el,E⟩,J,K,L,m,d⟩:=o.at ((S9 j f k k (av _)).trans l) (by rw[Bg,HN.out]);obtain⟨y,C,rfl⟩:=el.form;have tX:=HL.out k x l;have c0:wr.cell? ⟨g,k*3,ns⟩=an (U O x.W):=tB r t (show 0<di.s by decide) m;have Q:wr.cell? ⟨g,k*3+1,ns⟩=an (U O x.H):=tB r t (show 1<di.s by decide) m;have R:wr.cell? ⟨g,k*3+2,ns⟩=an (Y y x.xs.length C):=tB r t (show 2<di.s by decide) m;have f0:wr.frozen? ⟨g,k*3,ns⟩=Bz:=r.frozenAt (k*3);have f1:wr.frozen? ⟨g,k*3+1,ns⟩=Bz:=r.frozenAt (k*3+1);have G:P[k*3+2]?=an (Y y x.xs.length C):=m 2 al;have HC:=af (Vn r (Vn el (Vn E (Vn J (Vn K (Vn L (Vn d (Vn G (Vn l (Vn s1 s2))))))))));clear r el E J K L d m G l s1 s2 o;go_wp2
   have T:au [g] wr ((wr.setCell ⟨g,k*3,ns⟩ (U O z)).setCell ⟨g,k*3+1,ns⟩ (U O (z+1))):=
    ((au.refl [g] wr).set (p:=⟨g,k*3,ns⟩) (.inl aj) _).set (p:=⟨g,k*3+1,ns⟩) (.inl aj) _
   obtain⟨r,el,E,J,K,L,d,G,l,s1,s2⟩:=HC.out;have hR:=((r.stored (k*3) (U O z)).1.stored (k*3+1) (U O (z+1))).1;have eO:=(di.az (x:=x) ⟨el,E⟩ T λq hq=>by simp at hq;omega).1;refine(acj eO aa aa aa).mono ?_;rintro e F⟨rfl,o5,g5⟩;have V:au ((aki y x.xs.length C).ownBlock.toList) ((wr.setCell ⟨g,k*3,ns⟩ (U O z)).setCell ⟨g,k*3+1,ns⟩ (U O (z+1))) F:=(au.refl _ _).Gm g5 λq hq=>.inl (by simp[hq])
   have D:∀q,q∈(aki y x.xs.length C).ownBlock.toList->a<=q/\q<b:=λq hq=>by
    have hq:(aki y x.xs.length C).ownBlock=an q:=by simpa using hq
    exact⟨(el.2.lt q hq).1,E q hq⟩
   have I:=Bf (hi:=0) hR V λq hq e=>by have:=D q hq;simp[alL] at e;omega
   have hm:uO j f k=⟨z,z+1,eS (z+2) x.xs.length⟩:=by unfold uO;rw[l,<-N.out];rfl
   have Z:z+1+1=z+2:=aa;have KZ:Hid (z+1+1+(x.xs.length:Int)=jE j f (k+1)):=by rw[Hid,jE,<-N.out,l,Z];rfl
   have K5:Hid (bg di F lo hi (Y (an ⟨g,0,ns⟩) n c) (j5 j f (k+1))/\∃S:List Nat,(∀s,s∈S->lo<=s/\s<hi)/\au S w F):=by
    have X:au (g::(aki y x.xs.length C).ownBlock.toList) wr F:=(T.more aj).trans (V.more (by simp;intro q h;exact .inr h));refine⟨?_,g::((aki y x.xs.length C).ownBlock.toList++S),λq hq=>?_,(s2.more λq h=>by simp[h]).trans (X.more λq h=>by simp at h⊢;exact h.imp_right .inl)⟩
    ·rw[j5,hm];refine d F _ (Y y x.xs.length C) ⟨z,z+1,eS (z+2) x.xs.length⟩ a b hi X (λq hq=>(jH.1 hq).elim (λe=>.inr (.inl e)) λh=>.inl (D q h)) ?_ ⟨?_,E⟩ (.inl ⟨rfl,rfl⟩) (av _)
     ·have e:=PM (ys:=[U O z,U O (z+1)]) (xs:=P) (o:=k*3) G;show F.ownsRow _ _ _ _ _ (iQ P (k*3) ([U O z,U O (z+1)]++[Y y x.xs.length C]));rw[e];exact I
     ·show Own F a _ (eS (z+2) x.xs.length).length _;rw[zt,<-Z];exact o5
    ·rcases jH.1 hq with rfl|hq
     ·exact⟨g1,g3⟩
     ·rcases vB.1 hq with hq|hq
      ·have:=D q hq;omega
      ·exact s1 q hq
   clear T hR eO V D I hm o5 g5 r el E J K L d G l s1 s2 HC c0 Q R f0 f1 Z hK;go_wp2;go_roundw;case rel=>exact⟨k+1,_,aa,aF,rfl,aa,aa,KZ,K5⟩
   case measure=>exact aT
  ·have jn:k=n:=by omega
   subst jn;go_wp2;go_ret;exact⟨by rw[N.out];rfl,hK.out.1,hK.out.2⟩
def Nu{j:Int}{o:List dp}(p:bg di w lo hi (Y A n c) (j5 o j n))(H:o.length=n)(Z:n<=8)(I:∀(i:Nat)(x:dp),o[i]?=an x->x.xs.length<=1024)(t:0<=j)(l:j<=1000000):
  aiK Gz.prog 12 #[Y A n c,U O j] w λe w'=>e=be (U O (jE o j n))/\Q w w':=by
 have y:=af H;have J:=af I;have HO:=af p;clear H I p;go_enter Gz.gf func12,ntmps12;go_wp2;go_loopw[1,5] (λx i wr=>∃(k:Nat)(z:Int),k<=n/\i=U O k/\x=U O z/\0<=z/\z<=1000000+1026*k/\Hid (z=jE o j k)/\Hid (Q w wr)) (λ_ i _=>n-(intOf i).toNat)
 case atStart=>exact⟨0,_,aa,rfl,rfl,t,aa,rfl,Q.refl _⟩
 case round=>
  obtain⟨k,z,hk,rfl,rfl,z0,z1,C,hK⟩:=hrel;by_cases f:k<n
  ·have K:(k:Int)<n:=by omega
   obtain⟨x,p⟩:=fS y.out f;have hm:uO o j k=⟨z,z+1,eS (z+2) x.xs.length⟩:=by unfold uO;rw[p,<-C.out];rfl
   have l:=Ta o j k (by rw[y.out];exact f) (n-(k+1));rw[show k+1+(n-(k+1))=n by omega,hm] at l;obtain⟨g,zs,u,a,b,rfl,g1,g2,g3,r,⟨el,L⟩,M,N,P,m,_⟩:=(HO.out.q hK.out).at l (by rw[Bg,y.out]);have el:Own wr a u x.xs.length (eS (z+2) x.xs.length):=by have h:Own wr a u (eS (z+2) x.xs.length).length (eS (z+2) x.xs.length):=el;rw[zt] at h;exact h
   obtain⟨R,S,rfl⟩:=el.form;have V:=J.out k x p;have c0:wr.cell? ⟨g,k*3,ns⟩=an (U O z):=tB r f (show 0<di.s by decide) m;have D:wr.cell? ⟨g,k*3+1,ns⟩=an (U O (z+1)):=tB r f (show 1<di.s by decide) m;have E:wr.cell? ⟨g,k*3+2,ns⟩=an (Y R x.xs.length S):=tB r f (show 2<di.s by decide) m;have F:z+1+1=z+2:=aa;have W:Hid (z+1+1+(x.xs.length:Int)=jE o j (k+1)):=by rw[Hid,jE,<-C.out,p,F];rfl
   have T:=af (ack (z+1+1) wr (by rw[F];exact el) aa aa aa);have d1:(z !=z)=Bz:=aj;have d2:(z+1 !=z+1)=Bz:=aj;have d3:decide (z+1+1+(x.xs.length:Int)<0)=Bz:=aA;clear r el L M N P m p hm l F;go_wp2;refine T.out.mono ?_;rintro e wn⟨rfl,d,rfl⟩;have X:=af (hK.out.drewN d);clear c0 D E T;go_wp2;go_roundw;case rel=>exact⟨k+1,_,aa,aF,rfl,aa,aa,W,X⟩
   case measure=>exact aT
  ·have G:k=n:=by omega
   subst G;go_wp2;go_ret;exact⟨by rw[C.out];rfl,hK.out⟩
end
section
open Go.RowKit Go.WideShapes Go.ChangeShapes
def zP:dp:=⟨0,0,[]⟩
def jc(c:df)(r:dp):Bool:=dv c.W c.H c.I c.q c.ls r.W r.H r.xs
def nj(c:df)(r:dp):dp:=⟨uN (jc c r) c.W,uN (jc c r) c.H,yt (jc c r) (jy c.W c.H c.I c.q c.ls r.xs)⟩
def iZ(a:List dp)(k:Nat)(L:Int):dp:=if k=0 then zP else(a[(iv k L).toNat]?).getD zP
def eN(cs:List df)(L keep:Int):Nat->Option (List dp)
 |0=>an []
 |k+1=>match eN cs L keep k,cs[k]? with
  |some a,an c=>if dQ k L<=keep then(if jc c (iZ a k L) then an (a++[nj c (iZ a k L)]) else ns) else an (a++[zP])
  |_,_=>ns
def jD(cs:List df)(L keep:Int):List dp:=if cs.length<=8/\1<=L/\L<=4/\0<=keep then(eN cs L keep cs.length).getD [] else[]
def QU{cs:List df}{L keep:Int}{k:Nat}(h:eN cs L keep k=ns):∀d,eN cs L keep (k+d)=ns
 |0=>h
 |d+1=>by rw[<-Nat.add_assoc,eN,QU h d]
def adi{c:df}{r:dp}:(nj c r).xs.length<=1024:=aeU
def QV{a:List dp}{L:Int}(h:∀p,p∈a->p.xs.length<=1024):(iZ a k L).xs.length<=1024:=by
 unfold iZ;split
 ·exact dk _
 ·cases hc:a[(iv k L).toNat]? with|none=>exact dk _|some p=>exact h p (oS hc)
def qp{cs:List df}{L keep:Int}:∀{k:Nat}{a:List dp},eN cs L keep k=an a->a.length=k/\∀p,p∈a->p.xs.length<=1024
 |0,a,h=>by rw[eN] at h;injection h with h;subst h;exact⟨rfl,aj⟩
 |k+1,a,h=>by
  rw[eN] at h;cases h1:eN cs L keep k with
  |none=>rw[h1] at h;simp at h
  |some d=>
   cases b:cs[k]? with
   |none=>rw[h1,b] at h;simp at h
   |some c=>
    obtain⟨e,f⟩:=qp h1;rw[h1,b] at h
    have:∃p,a=d++[p]/\p.xs.length<=1024:=by
     simp only at h;split at h
     ·split at h
      ·injection h with h;exact⟨_,h.symm,adi⟩
      ·simp at h
     ·injection h with h;exact⟨_,h.symm,dk _⟩
    obtain⟨p,rfl,g⟩:=this;refine⟨by simp[e],λq hq=>?_⟩;rcases vB.1 hq with hq|hq
    ·exact f q hq
    ·obtain rfl:q=p:=by simpa using hq
     exact g
def aeY{cs:List df}{L keep:Int}:(jD cs L keep).length<=8/\∀p,p∈jD cs L keep->p.xs.length<=1024:=by
 unfold jD;split
 ·rename_i h;cases h1:eN cs L keep cs.length with|none=>exact⟨aj,aj⟩|some b=>obtain⟨d,a⟩:=qp h1;exact⟨by rw[Option.getD_some];omega,a⟩
 ·exact⟨aj,aj⟩
def UM{c:df}{r:dp}(a:∀i,i<c.ls.length->bytes (aR c.ls i)):Im c.W c.H c.q c.I c.ls.length c.ls r.W r.H r.xs.length r.xs (nj c r).W (nj c r).H (jc c r) (nj c r).xs.length (nj c r).xs:=⟨rfl,rfl,rfl,rfl,rfl,rfl,rfl,a⟩
def Tc:(Gz.prog.info? 40).map (λi=>(i.zero,i.size,i.bytes))=an (an (a9 #[U O 0,U O 0,Y ns 0 0]),3,40):=ah
def Xz{q t:Nat}{l:List dp}{p:dp}{b:Array Oper}{rest:List Oper}{o:Oper}{a:Act}{F:Exit->Act->AS->Prop}(y:o.guard=ns){s x:Operand}
  (J:o.op=.call {callee:=.builtin .append,args:=#[s,x],argTypes:=#[24,24]})(K:a.eval s=v)(h:bg di w lo hi v l){ad:ajF}(L:a.eval x=Y (an ad) 1 c)
  (hc:∀j z,(di.cells p u)[j]?=an z->w.cell? (ad.add j)=an z)(el:di.El w q t u p)(h1:hi<=q)(G:q<=t)(N:t<=w.heap.size)(d:lo<=hi)(P:l.length<=1000)
  (hK:∀v' w',bg di w' lo w'.heap.size v' (l++[p])->w.grownBy w' v.ownBlock->wpList Gz.prog b F rest (a.put o.dst v') w'):wpList Gz.prog b F (o::rest) a w:=by
 obtain⟨i0,C,D,hz1,hz2⟩:=info_parts Tc;obtain⟨A,R,rfl⟩:=el.1.form;obtain⟨S,M,f⟩:=h.snoc;refine wpList_append_own_at w y s x 24 J lo 40 i0 _ 3 40 (Gz.gu underlying24) C D hz1 hz2 rfl al v l.length _ K M ad 1 c _ L rfl hc ?_ kT aa aa λv' w' E r2 _ m=>hK v' w' ?_ r2
 ·intro z H;simp only[di,List.mem_cons,List.not_mem_nil,or_false] at H;rcases H with rfl|rfl|rfl<;>rfl
 ·have I:∀s,v'.ownBlock=an s->s<w'.heap.size:=λs e=>(E.lt s e).2;cases i:v.ownBlock with
  |none=>rw[i] at r2 m;exact f (au.gV [] (Q.iS r2)) aj E (di.az el (au.gV [] (Q.iS r2)) aj) h1 G yS (λs e=>⟨I s e,.inr (by rcases m with r|r<;>rw[r] at e<;>simp at e;omega)⟩) yS d
  |some g=>have T:=h.1 g i;rw[i] at r2 m;exact f (au.dD r2) (by simp[i]) E (di.az el (au.dD r2) aA) h1 G yS (λs e=>⟨I s e,m.elim (λr=>.inl (by rw[r] at e;rw[i];exact e)) λr=>.inr (by rw[r] at e;injection e;omega)⟩) yS d
def bg.iV(w:AS)(h:lo<=w.heap.size):bg di (w.alloc (ac #[] 40)) lo (w.alloc (ac #[] 40)).heap.size (Y (an ⟨w.heap.size,0,ns⟩) 0 0) []:=
 ⟨λs e=>by injection e with e;subst e;simp,[],λ_=>(0,0),rfl,World.ownsRow_lit w #[] 0 h (dk _) rfl,aj,aj⟩
def aeZ{g:Nat}{t:TypeId}{p:dp}(h:ak w g t #[U O p.W,U O p.H,u]):∀j z,(di.cells p u)[j]?=an z->w.cell? ((⟨g,0,ns⟩:ajF).add j)=an z:=λj z a=>by
 have:=h.cell j;rw[show(#[Value.int .i64 p.W,U O p.H,u]:Array so)[j]?=an z by simpa[di] using a] at this;rw[<-this];unfold Addr.add;split
 ·rename_i e;rw[show j=0 by simpa using e]
 ·simp
def XE{cs:List df}(L keep:Int)(hx:iw hQ w B A cs)(hn:cs.length=n)(lx:n<=1048576)(hl:∀(i:Nat)(x:df),cs[i]?=an x->x.ls.length<=1048576/\∀i,i<x.ls.length->bytes (aR x.ls i))(hB:B<=w.heap.size)(hT:Tb w):
  aiK Gz.prog 5 #[.slice A n c,.int .i64 L,.int .i64 keep] w λe w'=>∃v,e=be v/\bg di w' w.heap.size w'.heap.size v (jD cs L keep)/\Q w w':=by
 have HX:=af hx;have HN:=af hn;have HL:=af hl;have HT:=af hT;clear hx hn hl hT;have K0:=af (Vn ((Q.refl w).alloc (ac #[] 40)) (bg.iV w (av _)));by_cases R:n<=8/\1<=L/\L<=4/\0<=keep
 case neg=>
  have HR:Hid (jD cs L keep=[]):=if_neg (by rw[HN.out];exact R);by_cases h8:n<=8
  ·by_cases hL:1<=L/\L<=4
   all_goals
    go_enter Gz.gf func5,ntmps5;go_wp2;first|refine(lV _ hL.1 hL.2).mono ?_|refine(AH _ _ _ _ aa).mono ?_
    rintro e w'⟨rfl,rfl⟩;go_wp2;go_ret;exact⟨_,rfl,by rw[HR.out];exact K0.out.2,K0.out.1⟩
  ·go_enter Gz.gf func5,ntmps5;go_wp2;go_ret;exact⟨_,rfl,by rw[HR.out];exact K0.out.2,K0.out.1⟩
 have HV:=af R;obtain⟨Jw,S,V,UU⟩:=R;go_enter Gz.gf func5,ntmps5;go_wp2;refine(lV _ aa aa).mono ?_;rintro e w'⟨rfl,rfl⟩;go_wp2;go_loopw[7,8] (λv i wr=>∃(k:Nat)(l:List dp),k<=n/\i=.int .i64 k/\Hid (eN cs L keep k=an l/\Q w wr/\bg di wr w.heap.size wr.heap.size v l)) (λ_ i _=>n-(intOf i).toNat)
 case atStart=>exact⟨0,[],dk _,rfl,rfl,K0.out⟩
 case round=>
  obtain⟨k,l,hk,rfl,hK⟩:=hrel;clear K0;by_cases aV:k<n
  ·have i6:(k:Int)<n:=by omega
   obtain⟨x,hx⟩:=fS HN.out aV;have E:=af hx;clear hx;have F:=ak.new wr 40 #[.int .i64 0,.int .i64 0,.slice ns 0 0];have C:=(Q.refl wr).alloc (ac #[.int .i64 0,.int .i64 0,.slice ns 0 0] 40);have ca:=F.cell
   go_upto_if 38 with(go_at_call 15;refine(FR k L aa ⟨S,V⟩).mono ?_;rintro e w'⟨rfl,rfl⟩)
   go_cut[10,11,12] from 27 to 64 (λ_ _ _ m=>∃p A c,Hid (eN cs L keep (k+1)=an (l++[p])/\ak m wr.heap.size 40 #[.int .i64 p.W,.int .i64 p.H,.slice A p.xs.length c]/\Own m (wr.heap.size+1) (.slice A p.xs.length c) p.xs.length p.xs/\Q wr m))
   case first=>
    by_cases hle:dQ k L<=keep
    ·obtain⟨h1,G,N⟩:=hK.out;obtain⟨r,P⟩:∃r,iZ l k L=r:=⟨_,rfl⟩;have Y':r.xs.length<=1048576:=by rw[<-P];exact aI (QV (qp h1).2) (by omega)
     have HS:Hid (eN cs L keep (k+1)=if jc x r then an (l++[nj x r]) else ns):=by rw[Hid,eN,h1,E.out,<-P];exact if_pos hle
     have HR:=af P;have z:=(qp h1).1;obtain⟨A7,c7,e7,_,_⟩:=N.form;rw[z] at e7;subst e7;have R7:=af (N.rd z (av _));clear h1 N hK P;have Q2:=af G;have sw:=G.size;clear G;have bb:=ak.new (wr.alloc (ac #[.int .i64 0,.int .i64 0,.slice ns 0 0] 40)) 40 #[.int .i64 0,.int .i64 0,.slice ns 0 0];have J:=(Q.refl (wr.alloc (ac #[.int .i64 0,.int .i64 0,.slice ns 0 0] 40))).alloc (ac #[.int .i64 0,.int .i64 0,.slice ns 0 0] 40);rw[World.size_alloc] at bb;have sz:(wr.alloc (ac #[.int .i64 0,.int .i64 0,.slice ns 0 0] 40)).heap.size=wr.heap.size+1:=aj
     go_upto_if 41 with fail
     go_cut[] from 38 to 47 (λm=>∃A c,Hid (ak m (wr.heap.size+1) 40 #[.int .i64 r.W,.int .i64 r.H,.slice A r.xs.length c]/\Rd m wr.heap.size A r.xs/\Q (wr.alloc (ac #[.int .i64 0,.int .i64 0,.slice ns 0 0] 40)) m))
     case first=>
      by_cases J6:k=0
      ·have e1:r=zP:=by rw[<-HR.out];exact if_pos J6
       subst e1;have:(k:Int)=0:=aa;go_wp2;go_meet;exact⟨ns,0,bb,Rd.nil _ _ _,J⟩
      ·obtain⟨i1,i2,_⟩:=AD k L aa ⟨S,V⟩;obtain⟨i,hi⟩:=vI i1;have T:=Xy k L aa ⟨S,V⟩ ((wr.alloc (ac #[.int .i64 0,.int .i64 0,.slice ns 0 0] 40)).alloc (ac #[.int .i64 0,.int .i64 0,.slice ns 0 0] 40));rw[hi] at T i2
       have e1:l[i]?=an r:=by have h:=HR.out;rw[iZ,if_neg J6,hi] at h;obtain⟨y,hy⟩:=fS z (show i<k by omega);rw[Int.toNat_natCast,hy] at h;rw[hy,<-h];rfl
       obtain⟨b,o,rfl,hb,hc⟩:=R7.out aa;obtain⟨u,⟨A8,c8,rfl,_,_,WI⟩,WJ⟩:=hc i r e1;have qq:=C.trans J;have P:((wr.alloc (ac #[.int .i64 0,.int .i64 0,.slice ns 0 0] 40)).alloc (ac #[.int .i64 0,.int .i64 0,.slice ns 0 0] 40)).rangeAt b (o+i*3) [.int .i64 r.W,.int .i64 r.H,.slice A8 r.xs.length c8]:=λj v R=>(qq.cell b _ hb).trans (WJ j v R);have D8:=af (WI.q qq (av _));have hik:(i:Int)<k:=i2;have T':=af T;clear hc WJ WI T;have:(0:Int)<k:=aa;go_wp2_with(first|(go_at_call 16;refine T'.out.mono ?_;rintro e w'⟨rfl,rfl⟩)|(refine wpList_load_mid rfl 40 (.tmp 46) rfl b (o+i*3) rfl _ _ P (Gz.gu (Gz.gu underlying40)) rfl ah ?_)|(refine eP (cs':=#[.int .i64 r.W,.int .i64 r.H,.slice A8 r.xs.length c8]) rfl _ _ _ rfl rfl _ rfl rfl bb rfl fH ah ?_;intro w9 b9 g9 s9));go_meet;exact⟨A8,c8,b9,D8.out.grown g9 aA (λg e=>by have:=aJ e;omega),J.grown g9 λg e=>by have:=aJ e;omega⟩
     case rest=>
     obtain⟨AR,X,hc⟩:=hcut;obtain⟨bR,rR,qR⟩:=hc.out;clear bb J hc;have F:=F.q qR;generalize wc=f at bR rR qR F⊢;have QR:=C.trans qR;have sR:=QR.size;have sR':=bR.lt;obtain⟨Z,o0,rfl,hb0,RC⟩:=HX.out eD;obtain⟨u,⟨K,M,rfl,_,_,g3⟩,yu⟩:=RC k x E.out;have hwB:B<=wr.heap.size:=aa;obtain⟨r0,r1,r2,r3,r4⟩:=Io (w:=f) (b:=Z) (o:=o0+k*5) (v0:=.int .i64 x.W) (v1:=.int .i64 x.H) (v2:=a5 x.I) (v3:=.int .i64 x.q) (v4:=.slice K x.ls.length M) (λj v R=>((Q2.out.trans QR).cell Z _ aa).trans (yu j v R)) aa;obtain⟨rk,Fr⟩:=HL.out k x E.out;obtain⟨t,ht⟩:∃t,jc x r=t:=⟨_,rfl⟩;obtain⟨p,hp⟩:∃p,nj x r=p:=⟨_,rfl⟩;have GG:=UM (r:=r) Fr;rw[ht,hp] at GG HS;replace GG:=af GG;have X1:=af λd(y:Q f d)=>g3.q ((Q2.out.trans QR).trans y) hB;have T1:=af λd(y:Q f d)=>HT.out.q ((Q2.out.trans QR).trans y);have R1:=af λd(y:Q f d)=>rR.q y sR;have z1:∀d,Q f d->B<=d.heap.size:=λd y=>by have:=y.size;omega
     have z2:∀d,Q f d->wr.heap.size<=d.heap.size:=λd y=>by have:=y.size;omega
     clear RC yu g3 Fr rR ht hp;have cR:=bR.cell
     go_upto_region 12 with fail
     go_cut[11,12] from 48 to 56 (λpp b m=>∃g A lo c,pp=bi (an ⟨g,0,ns⟩)/\b=a5 t/\Hid (ak m g 40 #[.int .i64 p.W,.int .i64 p.H,.slice A p.xs.length c]/\Own m lo (.slice A p.xs.length c) p.xs.length p.xs/\Q f m/\f.heap.size<=lo/\f.heap.size<=g/\g<m.heap.size))
     case first=>
      have y:Q f f.drew:=(Q.refl _).drew;refine fe (λd=>Q f d/\(∀i,d.cell? ⟨wr.heap.size+1,i,ns⟩=(#[.int .i64 r.W,.int .i64 r.H,.slice AR r.xs.length X]:Array so)[i]?)/\d.cell? ⟨Z,o0+k*5,ns⟩=an (.int .i64 x.W)/\d.cell? ⟨Z,o0+k*5+1,ns⟩=an (.int .i64 x.H)/\d.cell? ⟨Z,o0+k*5+2,ns⟩=an (a5 x.I)/\d.cell? ⟨Z,o0+k*5+3,ns⟩=an (.int .i64 x.q)/\d.cell? ⟨Z,o0+k*5+4,ns⟩=an (.slice K x.ls.length M)) (λj=>decide (11<=j)) ah ⟨y,(bR.q y).cell,r0 ⟨_,y⟩,r1 ⟨_,y⟩,r2 ⟨_,y⟩,r3 ⟨_,y⟩,r4 ⟨_,y⟩⟩ λhS=>?_;refine ai 0 (h:=ai 1 (h:=ai 2 (h:=ai 3 (h:=ai 4 (h:=?_)))));refine Es (i:=5) (j:=9) ah rfl rfl rfl rfl (λK2 a=>?_) (λK2 a=>?_)
      ·(go_simp;(try have nl:=nb.lt);refine(T5 GG.out K AR M X B wr.heap.size (X1.out _ y) (z1 _ y) rk (T1.out _ y) (R1.out _ y) (z2 _ y) Y').mono ?_;rintro e w5⟨v5,rfl,o5,D⟩;obtain⟨A5,c5,rfl⟩:=o5.form;have L5:=o5.2.lt;have l5:=y.size;(try replace nb:=nb.q D);replace y:=y.trans D;refine a.out _ _ ⟨y,(bR.q y).cell,r0 ⟨_,y⟩,r1 ⟨_,y⟩,r2 ⟨_,y⟩,r3 ⟨_,y⟩,r4 ⟨_,y⟩⟩ λhS=>?_;clear a K2;refine bh ?_)
       refine ai 6 (h:=ai 7 (h:=ai 8 (h:=?_)));refine bA (k:=9) ah rfl rfl λK2 a=>?_;(go_simp;have nb:=ak.new w5 40 #[.int .i64 0,.int .i64 0,.slice ns 0 0];have C:=(Q.refl w5).alloc (ac #[.int .i64 0,.int .i64 0,.slice ns 0 0] 40);(try replace o5:=o5.q C);have ln:=y.size;replace y:=y.trans C;refine a.out _ _ ⟨y,(bR.q y).cell,r0 ⟨_,y⟩,r1 ⟨_,y⟩,r2 ⟨_,y⟩,r3 ⟨_,y⟩,r4 ⟨_,y⟩⟩ λhS=>?_;clear a K2;refine bh ?_)
       exact L3
      ·(go_simp;have nb:=ak.new f.drew 40 #[.int .i64 0,.int .i64 0,.slice ns 0 0];have C:=(Q.refl f.drew).alloc (ac #[.int .i64 0,.int .i64 0,.slice ns 0 0] 40);(try replace o5:=o5.q C);have ln:=y.size;replace y:=y.trans C;refine a.out _ _ ⟨y,(bR.q y).cell,r0 ⟨_,y⟩,r1 ⟨_,y⟩,r2 ⟨_,y⟩,r3 ⟨_,y⟩,r4 ⟨_,y⟩⟩ λhS=>?_;clear a K2;refine bh ?_)
       refine bA (k:=5) ah rfl rfl λK2 a=>?_;(go_simp;(try have nl:=nb.lt);refine(T5 GG.out K AR M X B wr.heap.size (X1.out _ y) (z1 _ y) rk (T1.out _ y) (R1.out _ y) (z2 _ y) Y').mono ?_;rintro e w5⟨v5,rfl,o5,D⟩;obtain⟨A5,c5,rfl⟩:=o5.form;have L5:=o5.2.lt;have l5:=y.size;(try replace nb:=nb.q D);replace y:=y.trans D;refine a.out _ _ ⟨y,(bR.q y).cell,r0 ⟨_,y⟩,r1 ⟨_,y⟩,r2 ⟨_,y⟩,r3 ⟨_,y⟩,r4 ⟨_,y⟩⟩ λhS=>?_;clear a K2;refine bh ?_)
       refine ai 6 (h:=ai 7 (h:=ai 8 (h:=?_)));exact L3
     case rest=>
     obtain⟨g,A5,l5,c5,rfl,rfl,hc⟩:=hcut;obtain⟨b5,o5,D,z5,z6,z7⟩:=hc.out;have b5c:=b5.cell;have F:=F.q D;clear hc;cases t with
     |false=>
      have J7:Hid (jD cs L keep=[]):=by exact L8
      go_wp2;go_ret;exact⟨_,rfl,by rw[J7.out];exact bg.iV _ (by have:=D.size;omega),(Q2.out.trans (QR.trans D)).alloc _⟩
     |true=>go_wp2_with(refine eP (cs':=#[.int .i64 p.W,.int .i64 p.H,.slice A5 p.xs.length c5]) rfl _ _ _ rfl rfl _ rfl rfl F rfl fH ah ?_;intro w9 b9 g9 s9);go_meet;exact⟨p,A5,c5,HS.out,b9,(o5.other g9 (.inr λe=>by have:=o5.2.lt _ e;omega)).mono aa,(QR.trans D).grown g9 λg e=>by have:=aJ e;omega⟩
    ·have h1:=hK.out.1;have HS:Hid (eN cs L keep (k+1)=an (l++[zP])):=by rw[Hid,eN,h1,E.out];exact if_neg hle
     clear h1 hK;go_wp2;go_meet;exact⟨zP,ns,0,HS.out,F,Own.nil _ _,C⟩
   case rest=>
   obtain⟨p,K,M,hc⟩:=hcut;obtain⟨h1,G,N⟩:=hK.out;obtain⟨k1,k2,k3,k4⟩:=hc.out;have HS:=af k1;have J:=(Q.refl wc).alloc (ac #[.int .i64 p.W,.int .i64 p.H,.slice K p.xs.length M] 40);have bn:=aeZ (ak.new wc 40 #[.int .i64 p.W,.int .i64 p.H,.slice K p.xs.length M]);have O:=af (N.q (k4.trans J));have Q1:=G.trans (k4.trans J);have z:l.length<=1000:=by have:=(qp h1).1;omega
   have sw:=G.size;have el:Hid (di.El (wc.alloc (ac #[.int .i64 p.W,.int .i64 p.H,.slice K p.xs.length M] 40)) (wr.heap.size+1) wc.heap.size (.slice K p.xs.length M) p):=⟨k3.q J,λs e=>(k3.2.lt s e).2⟩;have sc:=k2.lt;have cp:=k2.cell;clear k1 k2 k3 k4 h1 G N hK hc J F C ca;go_wp2_with(at_builtin;refine Xz rfl rfl rfl O.out rfl bn el.out aa aa aj sw z ?_;intro v6 w6 O6 G6)
   have KK:Hid (eN cs L keep (k+1)=an (l++[p])/\Q w w6/\bg di w6 w.heap.size w6.heap.size v6 (l++[p])):=by refine⟨HS.out,Q1.grown G6 λg e=>?_,O6⟩;obtain⟨_,P,_⟩:=O.out.snoc;exact(P.lt g e).1
   clear O6 G6 Q1 O bn el HS;go_roundw;case rel=>exact⟨k+1,_,aa,aF,KK⟩
   case measure=>exact aT
  ·have jn:k=n:=by omega
   subst jn;obtain⟨h1,G,N⟩:=hK.out;have HR:jD cs L keep=l:=by rw[jD,if_pos (by rw[HN.out];exact HV.out),HN.out,h1];rfl
   go_wp2;go_ret;exact⟨_,rfl,by rw[HR];exact N,G⟩
end
end Go.Proofs.Q0
