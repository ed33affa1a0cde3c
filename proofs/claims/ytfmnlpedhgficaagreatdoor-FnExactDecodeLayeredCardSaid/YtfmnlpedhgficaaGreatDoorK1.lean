import Derived.Test.YtfmnlpedhgficaaGreatDoorK0
set_option maxRecDepth 100000
set_option maxHeartbeats 8000000
set_option linter.all false
open Go.Value renaming int->U,slice->Y,bool->a5,agg->a9,pointer->bi,tuple->ci,iface->em
open Go.IntKind renaming i64->O
open Go.Obj renaming cells->ac
open Go.Ending renaming returned->be
open Go renaming Addr->ajF,Calls->aiK,Oper->akG,Operand->ajR,Program->NO,TypeId->TO,Value->so,World->AS,bodyPost_ret->ajz,results_cell_row->akL,wpList->ajU
open Go.IntKind renaming i64->EV
open Go.Value renaming int->alf
open Go.World renaming setCell->alZ,size_alloc->OF
open List renaming length_map->ako,replicate->rl
open Option renaming none->ns,some->an
namespace Go.Proofs
def Kp{p:Prop}(h:p:=by
  apply List.ext_getElem
  ·simp[a6]
  ·intro i h1 h2;rw[List.getElem_set];simp only[a6,List.getElem_map,List.getElem_range];by_cases e:k=i
   ·simp_all
   ·omega):p:=h
abbrev aB:=@Go.IntWalk.i64_in
def ah{p:Prop}(h:p:=by kernel_rfl):p:=h
def bh{p q:Prop}(k:q)(e:p=q:=by first|(simp only[Act.put,List.setIfInBounds_toArray,List.set_cons_zero,List.set_cons_succ];done)|(simp only[Act.put,List.setIfInBounds_toArray,List.set_cons_zero,List.set_cons_succ];exact rfl)|exact rfl):p:=e▸k
def Kq{p:Prop}(h:p:=by exact⟨h1,oU h2 aa,oU h3 aa,oU h4 aa⟩):p:=h
def Kr{p:Prop}(h:p:=by
  rcases(by omega:i=0\/i=1\/i=2\/i=3) with rfl|rfl|rfl|rfl
  ·exact oU h aa
  ·exact oU h1 aa
  ·exact oU h2 aa
  ·exact oU h3 aa):p:=h
def Mj{p:Prop}(h:p:=by
  clear b2 g2 z2 H1 H2 H3 H4;go_wp2;go_roundw;case rel=>exact⟨k+1,aa,aF,HK⟩
  case measure=>simp[intOf];omega):p:=h
def dw{p:Prop}(h:p:=by first|assumption|rfl):p:=h
abbrev zn:=@Int.mul_le_mul_of_nonneg_right
def fu{p:Prop}(h:p:=by grind):p:=h
def yz{p:Prop}(h:p:=by rw[<-IntWalk.i64_left,w1]):p:=h
def aT{p:Prop}(h:p:=by simp[intOf];omega):p:=h
def rN{p:Prop}(h:p:=by show w.heap.size+1≠w.heap.size+1+1;omega):p:=h
def uT{p:Prop}(h:p:=by show w.heap.size≠w.heap.size+1+1;omega):p:=h
def rO{p:Prop}(h:p:=by show w.heap.size<=w.heap.size+1+1;omega):p:=h
abbrev bH:=@Nat.lt_of_lt_of_le
def Df{p:Prop}(h:p:=by unfold cl;split<;>(try split)<;>omega):p:=h
def yA{p:Prop}(h:p:=by rw[E.out];omega):p:=h
def Dr{p:Prop}(h:p:=by go_enter Gz.gf func84,ntmps84;go_wp2;go_ret;exact⟨rfl,rfl⟩):p:=h
def Ds{p:Prop}(h:p:=by go_wp2;go_ret;exact⟨rfl,aU⟩):p:=h
def vo{p:Prop}(h:p:=by go_wp2;go_ret;exact⟨aj,aU⟩):p:=h
def aA{p:Prop}(h:p:=by simp;omega):p:=h
abbrev ia:=@List.getElem?_eq_some_iff
def Ks{p:Prop}(h:p:=by rw[this,<-hv,<-gq xs o k j hj];have tW:j<(sub xs o k).length:=fu;simp[tW]):p:=h
def uU{p:Prop}(h:p:=by simp[World.setCell]):p:=h
abbrev zy:=@List.eq_nil_of_length_eq_zero
def kU{p:Prop}(h:p:=by simpa using h):p:=h
end Go.Proofs
namespace Go.Proofs.Q0
open Go.Proofs.Tryz
variable{k o:Nat}{xs ys:List Int}{B n:Int}{w w':AS}{p:ajF}{row:Option Nat}{A:Option ajF}
section
open Go.RowKit
def tc(f:Nat->Int)(k:Nat)(h:k<16):(a6 (λj=>if j<k then f j else 0) 16).set k (f k)=a6 (λj=>if j<k+1 then f j else 0) 16:=by exact Kp
def sQ(f:Nat->Int):a6 (λj=>if j<16 then f j else 0) 16=a6 f 16:=aD
def sT(f:Nat->Int):a6 (λj=>if j<0 then f j else 0) 16=rl 16 0:=aD
def tl{f:Nat->Int}{m:Nat}(h:k<16)(hm:m<=k):(a6 (λj=>if j<m then f j else 0) 16)[k]?.getD 0=0:=by rw[oX h,if_neg aa]
def agd(h:xs.length=16):a6 (λj=>xs[j]?.getD 0) 16=xs:=by rw[<-h];exact abH xs
end
section
open Go.RowKit
def pr(xs:List Int)(a s:Nat):List Int:=
 let p:=xs[a]?.getD 0
 let q:=xs[a+s]?.getD 0
 let r:=xs[a+2*s]?.getD 0
 let t:=xs[a+3*s]?.getD 0
 (((xs.set a (p+q+r+t)).set (a+s) (p+q-r-t)).set (a+2*s) (p-q-r+t)).set (a+3*s) (p-q+r-t)
def PU(xs:List Int)(a s:Nat):(pr xs a s).length=xs.length:=by simp[pr]
def cY(xs:List Int)(B:Int):Prop:=∀k:Nat,-B<=xs[k]?.getD 0/\xs[k]?.getD 0<=B
theorem AI{y:Int}(h:cY xs B)(h1: -B<=y)(b:y<=B):cY (xs.set k y) B:=λi=>by
 rw[List.getElem?_set];have:=h i;split
 ·grind
 ·omega
def oU{C:Int}(h:cY xs B)(b:B<=C):cY xs C:=λi=>by have:=h i;omega
def oV(h:cY xs B)(d:0<=B){a s:Nat}:cY (pr xs a s) (4*B):=by have b:=oU h (show B<=4*B by omega);have e:=h a;have f:=h (a+s);have hc:=h (a+2*s);have hd:=h (a+3*s);exact AI (AI (AI (AI b aa aa) aa aa) aa aa) aa aa
def YB{g a s:Nat}(C:Bl w g xs)(N:0<s)(W:a+3*s<16)(E:cY xs B)(Q:0<=B)(R:B<=1000000000000):
  aiK Gz.prog 199 #[bi (an ⟨g,0,ns⟩),U O a,U O s] w λe w'=>e=be (ci #[])/\Bl w' g (pr xs a s)/\w.grownBy w' (an g)/\w'.heap.size=w.heap.size:=by
 have h0:=E a;have h1:=E (a+s);have S:=E (a+2*s);have T:=E (a+3*s);have F:pr xs a s=(((xs.set a (xs[a]?.getD 0+xs[a+s]?.getD 0+xs[a+2*s]?.getD 0+xs[a+3*s]?.getD 0)).set (a+s) (xs[a]?.getD 0+xs[a+s]?.getD 0-xs[a+2*s]?.getD 0-xs[a+3*s]?.getD 0)).set (a+2*s) (xs[a]?.getD 0-xs[a+s]?.getD 0-xs[a+2*s]?.getD 0+xs[a+3*s]?.getD 0)).set (a+3*s) (xs[a]?.getD 0-xs[a+s]?.getD 0+xs[a+2*s]?.getD 0-xs[a+3*s]?.getD 0):=rfl;have c0:=C.at a aa;have J:=C.at (a+s) aa;have K:=C.at (a+2*s) aa;have L:=C.at (a+3*s) aa;rw[F];clear F E;generalize xs[a]?.getD 0=p at h0 c0⊢;generalize xs[a+s]?.getD 0=q at h1 J⊢;generalize xs[a+2*s]?.getD 0=r at S K⊢;generalize xs[a+3*s]?.getD 0=t at T L⊢;obtain⟨i1,G⟩:∃i,a+s=i:=⟨_,rfl⟩;obtain⟨i2,H⟩:∃i,a+2*s=i:=⟨_,rfl⟩;obtain⟨i3,I⟩:∃i,a+3*s=i:=⟨_,rfl⟩;rw[G] at J⊢;rw[H] at K⊢;rw[I] at L⊢;have X:(a:Int)+(s:Int)=(i1:Int):=aa;have Z:(a:Int)+2*(s:Int)=(i2:Int):=aa;have e3:(a:Int)+3*(s:Int)=(i3:Int):=aa;have l0:(a:Int)<16:=aa;have l1:(i1:Int)<16:=aa;have l2:(i2:Int)<16:=aa;have l3:(i3:Int)<16:=aa;have d1:a≠i1:=aa;have d2:a≠i2:=aa;have d3:a≠i3:=aa;have d4:i1≠i2:=aa;have d5:i1≠i3:=aa;have d6:i2≠i3:=aa;have m2:EV.wrap (2*(s:Int))=2*(s:Int):=aB _ ⟨aa,aa⟩;have m3:EV.wrap (3*(s:Int))=3*(s:Int):=aB _ ⟨aa,aa⟩;have m4:EV.wrap (i1:Int)=(i1:Int):=aB _ ⟨aa,aa⟩;have m5:EV.wrap (i2:Int)=(i2:Int):=aB _ ⟨aa,aa⟩;have m6:EV.wrap (i3:Int)=(i3:Int):=aB _ ⟨aa,aa⟩;have V:=af C;clear G H I C;go_enter Gz.gf func199,ntmps199;go_wp2;refine fe (λM=>M.cell? ⟨g,a,ns⟩=an (U O p)/\M.cell? ⟨g,i1,ns⟩=an (U O q)/\M.cell? ⟨g,i2,ns⟩=an (U O r)/\M.cell? ⟨g,i3,ns⟩=an (U O t)) (λ_=>false) ah ⟨c0,J,K,L⟩ λhS=>?_;refine ai 0 (h:=ai 1 (h:=ai 2 (h:=ai 3 (h:=ai 4 (h:=ai 5 (h:=ai 6 (h:=ai 7 (h:=ai 8 (h:=ai 9 (h:=ai 10 (h:=ai 11 (h:=ai 12 (h:=ai 13 (h:=ai 14 (h:=ai 15 (h:=ai 16 (h:=ai 17 (h:=ai 18 (h:=ai 19 (h:=ai 20 (h:=ai 21 (h:=ai 22 (h:=ai 23 (h:=ai 24 (h:=ai 25 (h:=ai 26 (h:=ai 27 (h:=ai 28 (h:=ai 29 (h:=ai 30 (h:=ai 31 (h:=?_))))))))))))))))))))))))))))))));refine lT ah ?_ _;clear hS c0 J K L;have d:=V.out.drew;have l:=DW (World.grownBy.refl w (an g)) 1;have m:w.drew.heap.size=w.heap.size:=rfl;change w.grownBy w.drew (an g) at l;generalize w.drew=y at d l m⊢;have v1:EV.wrap (p+q)=p+q:=aB _ ⟨aa,aa⟩;have v2:EV.wrap (p+q+r)=p+q+r:=aB _ ⟨aa,aa⟩;have v3:EV.wrap (p+q+r+t)=p+q+r+t:=aB _ ⟨aa,aa⟩;have v4:EV.wrap (p+q-r)=p+q-r:=aB _ ⟨aa,aa⟩;have v5:EV.wrap (p+q-r-t)=p+q-r-t:=aB _ ⟨aa,aa⟩;have v6:EV.wrap (p-q)=p-q:=aB _ ⟨aa,aa⟩;have v7:EV.wrap (p-q-r)=p-q-r:=aB _ ⟨aa,aa⟩;have v8:EV.wrap (p-q-r+t)=p-q-r+t:=aB _ ⟨aa,aa⟩;have v9:EV.wrap (p-q+r)=p-q+r:=aB _ ⟨aa,aa⟩;have v10:EV.wrap (p-q+r-t)=p-q+r-t:=aB _ ⟨aa,aa⟩;go_wp2;refine fe (λ_=>True) (λ_=>false) ah trivial λhS=>?_;refine ai 0 (h:=ai 1 (h:=ai 2 (h:=ai 3 (h:=ai 4 (h:=ai 5 (h:=ai 6 (h:=ai 7 (h:=ai 8 (h:=ai 9 (h:=ai 10 (h:=ai 11 (h:=ai 12 (h:=ai 13 (h:=ai 14 (h:=ai 15 (h:=ai 16 (h:=ai 17 (h:=ai 18 (h:=ai 19 (h:=ai 20 (h:=ai 23 (h:=?_))))))))))))))))))))));have z:=d.at a aa;have f0:=d.free a;refine bA (k:=21) ah rfl rfl λj b=>?_;go_simp;refine b.out _ _ trivial λ_=>?_;clear b j;refine bh ?_;refine bA (k:=22) ah rfl rfl λj b=>?_;go_simp;have f:=d.set a (p+q+r+t);have u:=su l a (U O (p+q+r+t));have x:(y.setCell ⟨g,a,ns⟩ (U O (p+q+r+t))).heap.size=w.heap.size:=by simpa[alZ] using m
 clear z f0 d l m;generalize y.setCell ⟨g,a,ns⟩ (U O (p+q+r+t))=D at f u x⊢;refine b.out _ _ trivial λ_=>?_;clear b j;refine bh ?_;have z:=f.at i1 aa;have f0:=f.free i1;refine bA (k:=24) ah rfl rfl λj b=>?_;go_simp;refine b.out _ _ trivial λ_=>?_;clear b j;refine bh ?_;refine bA (k:=25) ah rfl rfl λj b=>?_;go_simp;have d:=f.set i1 (p+q-r-t);have l:=su u i1 (U O (p+q-r-t));have m:(D.setCell ⟨g,i1,ns⟩ (U O (p+q-r-t))).heap.size=w.heap.size:=by simpa[alZ] using x
 clear z f0 f u x;generalize D.setCell ⟨g,i1,ns⟩ (U O (p+q-r-t))=y at d l m⊢;refine b.out _ _ trivial λ_=>?_;clear b j;refine bh ?_;refine lT ah ?_ _;clear hS;go_wp2;have u:=DW l 1;have x:y.drew.heap.size=w.heap.size:=m;have f:=d.drew;change w.grownBy y.drew (an g) at u;refine fe (λ_=>True) (λ_=>false) ah trivial λhS=>?_;clear d l m;generalize y.drew=D at f u x⊢;refine ai 0 (h:=ai 1 (h:=ai 2 (h:=ai 3 (h:=ai 4 (h:=ai 5 (h:=ai 6 (h:=ai 7 (h:=ai 8 (h:=ai 9 (h:=ai 10 (h:=ai 11 (h:=ai 12 (h:=ai 13 (h:=ai 14 (h:=ai 15 (h:=ai 16 (h:=ai 17 (h:=ai 18 (h:=ai 19 (h:=ai 20 (h:=ai 21 (h:=ai 22 (h:=ai 23 (h:=ai 24 (h:=ai 27 (h:=?_))))))))))))))))))))))))));have z:=f.at i2 aa;have f0:=f.free i2;refine bA (k:=25) ah rfl rfl λj b=>?_;go_simp;refine b.out _ _ trivial λ_=>?_;clear b j;refine bh ?_;refine bA (k:=26) ah rfl rfl λj b=>?_;go_simp;have d:=f.set i2 (p-q-r+t);have l:=su u i2 (U O (p-q-r+t));have m:(D.setCell ⟨g,i2,ns⟩ (U O (p-q-r+t))).heap.size=w.heap.size:=by simpa[alZ] using x
 clear z f0 f u x;generalize D.setCell ⟨g,i2,ns⟩ (U O (p-q-r+t))=y at d l m⊢;refine b.out _ _ trivial λ_=>?_;clear b j;refine bh ?_;have z:=d.at i3 aa;have f0:=d.free i3;refine bA (k:=28) ah rfl rfl λj b=>?_;go_simp;refine b.out _ _ trivial λ_=>?_;clear b j;refine bh ?_;refine bA (k:=29) ah rfl rfl λj b=>?_;go_simp;have f:=d.set i3 (p-q+r-t);have u:=su l i3 (U O (p-q+r-t));have x:(y.setCell ⟨g,i3,ns⟩ (U O (p-q+r-t))).heap.size=w.heap.size:=by simpa[alZ] using m
 clear z f0 d l m;generalize y.setCell ⟨g,i3,ns⟩ (U O (p-q+r-t))=D at f u x⊢;refine b.out _ _ trivial λ_=>?_;clear b j;refine bh ?_;refine lT ah ?_ _;clear hS;go_wp2
 go_end0
 exact⟨rfl,f.drew,DW u 1,x⟩
end
section
open Go.RowKit
def rows(xs:List Int):Nat->List Int
 |0=>xs
 |i+1=>pr (rows xs i) (4*i) 1
def im(xs:List Int):Nat->List Int
 |0=>xs
 |i+1=>pr (im xs i) i 4
def BJ(xs:List Int):List Int:=im (rows xs 4) 4
def abI(xs:List Int)(i:Nat):(rows xs i).length=xs.length:=by induction i with|zero=>rfl|succ i b=>rw[rows,PU,b]
def abJ(xs:List Int)(i:Nat):(im xs i).length=xs.length:=by induction i with|zero=>rfl|succ i b=>rw[im,PU,b]
def PW(h:cY xs B)(b:0<=B):cY (rows xs 1) (4*B)/\cY (rows xs 2) (16*B)/\cY (rows xs 3) (64*B)/\cY (rows xs 4) (256*B):=by have h1:cY (rows xs 1) (4*B):=oV h b;have h2:cY (rows xs 2) (4*(4*B)):=oV h1 aa;have h3:cY (rows xs 3) (4*(4*(4*B))):=oV h2 aa;have h4:cY (rows xs 4) (4*(4*(4*(4*B)))):=oV h3 aa;exact Kq
def abK(h:cY xs B)(b:0<=B):cY (im xs 1) (4*B)/\cY (im xs 2) (16*B)/\cY (im xs 3) (64*B)/\cY (im xs 4) (256*B):=by have h1:cY (im xs 1) (4*B):=oV h b;have h2:cY (im xs 2) (4*(4*B)):=oV h1 aa;have h3:cY (im xs 3) (4*(4*(4*B))):=oV h2 aa;have h4:cY (im xs 4) (4*(4*(4*(4*B)))):=oV h3 aa;exact Kq
def adw(h:cY xs B)(b:0<=B){i:Nat}(hi:i<4):cY (rows xs i) (256*B):=by obtain⟨h1,h2,h3,_⟩:=PW h b;exact Kr
def adx(h:cY xs B)(b:0<=B){i:Nat}(hi:i<4):cY (im xs i) (256*B):=by obtain⟨h1,h2,h3,_⟩:=abK h b;exact Kr
def OH{A S:Int}{g:Nat}(a s:Nat)(h:A=(a:Int))(hS:S=(s:Int))(i:Bl w g xs)(b:0<s)(j:a+3*s<16)(l:cY xs B)(d:0<=B)(f:B<=1000000000000):
  aiK Gz.prog 199 #[bi (an ⟨g,0,ns⟩),U O A,U O S] w λe w'=>e=be (ci #[])/\Bl w' g (pr xs a s)/\w.grownBy w' (an g)/\w'.heap.size=w.heap.size:=by
 subst h hS;exact YB i b j l d f
def abL(w:AS)(E:xs.length=16)(J:cY xs B)(z:0<=B)(L:B<=1000000):
  aiK Gz.prog 195 #[a9 (arr xs)] w λe w'=>e=be (a9 (arr (BJ xs)))/\Q w w':=by
 have s1:=bQ xs;rw[E] at s1;have F:Q w ((w.alloc (ac (arr xs) 94)).alloc (ac (arr (rl 16 0)) 94)):=aU;have G:=(Bl.new w xs E).alloc (ac (arr (rl 16 0)) 94);have D:=Bl.zero (w.alloc (ac (arr xs) 94));simp only[OF] at D;have H:((w.alloc (ac (arr xs) 94)).alloc (ac (arr (rl 16 0)) 94)).heap.size=w.heap.size+1+1:=aj;have K:=af J;clear J;go_enter Gz.gf func195,ntmps195;go_wp2;change Code.wp _ _ _ _ ((w.alloc (ac (arr xs) 94)).alloc (ac (arr (rl 16 0)) 94));generalize(w.alloc (ac (arr xs) 94)).alloc (ac (arr (rl 16 0)) 94)=X at F G D H⊢;go_loopw[5] (λi wr=>∃k:Nat,k<=4/\i=U O k/\Hid (Bl wr w.heap.size (rows xs k)/\Bl wr (w.heap.size+1) (rl 16 0)/\Q w wr/\wr.heap.size=w.heap.size+1+1)) (λi _=>4-(intOf i).toNat)
 case atStart=>exact⟨0,aa,rfl,G,D,F,H⟩
 case round=>
  obtain⟨k,M,rfl,hK⟩:=hrel;obtain⟨h1,m,f,h⟩:=hK.out;clear G D F H hK;by_cases q:k<4
  ·have b:(k:Int)<4:=by omega
   have d:=adw K.out z q;have H1:=af h1;have H2:=af m;have H3:=af f;have H4:=af h;have r:=af d;clear h1 m f h d;go_wp2;refine(OH (4*k) 1 aa rfl H1.out aa aa r.out aa aa).mono ?_;rintro e j⟨rfl,b2,g2,z2⟩;have HK:Hid (Bl j w.heap.size (rows xs (k+1))/\Bl j (w.heap.size+1) (rl 16 0)/\Q w j/\j.heap.size=w.heap.size+1+1):=⟨b2,H2.out.grown g2 (λe=>by have:=aJ e;omega),H3.out.grown g2 (λk e=>by cases e;omega),by rw[z2];exact H4.out⟩;exact Mj
  ·have b:k=4:=by omega
   subst b;have u:=(PW K.out z).2.2.2;have l:=abI xs 4;rw[E] at l;obtain⟨ys,x⟩:∃ys,rows xs 4=ys:=⟨_,rfl⟩;rw[x] at h1 u l;have N:=af x;have R:=af l;have H1:=af h1;have H2:=af m;have H3:=af f;have H4:=af h;have S:=af u;clear h1 m f h u x l;go_wp2;simp only[Int.cast_ofNat_Int];go_loopw[12] (λi wr=>∃k:Nat,k<=4/\i=U O k/\Hid (Bl wr w.heap.size (im ys k)/\Bl wr (w.heap.size+1) (rl 16 0)/\Q w wr/\wr.heap.size=w.heap.size+1+1)) (λi _=>4-(intOf i).toNat)
   case atStart=>exact⟨0,aa,rfl,H1.out,H2.out,H3.out,H4.out⟩
   case round=>
    obtain⟨k,M,rfl,hK⟩:=hrel;clear H1 H2 H3 H4;obtain⟨h1,m,f,h⟩:=hK.out;clear hK;by_cases q:k<4
    ·have b:(k:Int)<4:=by omega
     have d:=adx S.out aa q;have H1:=af h1;have H2:=af m;have H3:=af f;have H4:=af h;have r:=af d;clear h1 m f h d;go_wp2;refine(OH k 4 rfl rfl H1.out aa aa r.out aa aa).mono ?_;rintro e j⟨rfl,b2,g2,z2⟩;have HK:Hid (Bl j w.heap.size (im ys (k+1))/\Bl j (w.heap.size+1) (rl 16 0)/\Q w j/\j.heap.size=w.heap.size+1+1):=⟨b2,H2.out.grown g2 (λe=>by have:=aJ e;omega),H3.out.grown g2 (λk e=>by cases e;omega),by rw[z2];exact H4.out⟩;exact Mj
    ·have b:k=4:=by omega
     subst b;have C:(im ys 4).length=16:=by rw[abJ];exact R.out
     have H4:=af h;have H3:=af f;obtain⟨I,y⟩:∃I,im ys 4=I:=⟨_,rfl⟩;rw[y] at h1 C;have T:=af y;clear f h y;go_wp2_with(first|(first|refine fw rfl rfl rfl aG ?_|refine fq aD rfl rfl aG ?_)|(refine jg rfl _ _ rfl _ rfl _ _ rfl dw aG ?_;intro Z V W s9));refine ajz (v:=a9 (arr I)) (akL aD _ _ _ _ _ _ _ aD V.blk (Gz.gu underlying94) rfl (by rw[bQ,C];exact nI)) rfl ⟨by rw[BJ,N.out,T.out],?_⟩;exact H3.out.grown W (λk e=>by cases e;omega)
end
section
open Go.RowKit
def jo(f:Nat->Int):Nat->Int
 |0=>0
 |k+1=>jo f k+f k
def PX{f:Nat->Int}(h:∀j,j<16-> -B<=f j/\f j<=B)(d:0<=B)(k:Nat)(b:k<=16): -(16*B)<=jo f k/\jo f k<=16*B:=by
 have:∀k:Nat,k<=16-> -((k:Int)*B)<=jo f k/\jo f k<=(k:Int)*B:=by
  intro k b
  induction k with
  |zero=>simp[jo]
  |succ k e=>have:=h k aa;rw[jo,Int.natCast_succ,Int.add_mul,Int.one_mul];omega
 have h1:=this k b;have i:(k:Int)*B<=16*B:=zn aa d;omega
def sg(n:Nat):Int:=([1,1,1,1,1,1,-1,-1,1,-1,-1,1,1,-1,1,-1]:List Int)[n]?.getD 0
def Bm(n:Nat)(h:n<16):sg n=1\/sg n= -1:=by have:∀n,n<16->sg n=1\/sg n= -1:=al;exact this n h
def kE(xs:List Int)(k j:Nat):Int:=sg (4*(k/4)+j/4)*sg (4*(k%4)+j%4)*xs[j]?.getD 0
def oe(xs:List Int)(k:Nat):Int:=jo (kE xs k) 16
def jq(xs:List Int):List Int:=a6 (oe xs) 16
def Ad(xs:List Int):(jq xs).length=16:=aD
theorem ady{a b x:Int}(d:a=1\/a= -1)(e:b=1\/b= -1)(h: -B<=x/\x<=B): -B<=a*b*x/\a*b*x<=B:=fu
def Fl(h:cY xs B)(k j:Nat)(b:k<16)(d:j<16): -B<=kE xs k j/\kE xs k j<=B:=
 ady (Bm _ aa) (Bm _ aa) (h j)
def Fo(h:cY xs B)(d:0<=B):cY (jq xs) (16*B):=λk=>by
 rcases dg k 16 with b|b
 ·unfold jq;rw[oX b];exact PX (λj e=>Fl h k j b e) d 16 (av _)
 ·rw[List.getElem?_eq_none (by rw[Ad];exact b)];simp;omega
def afa(h:xs.length=16):∃l m q r u x y z C D b d e f i j,xs=[l,m,q,r,u,x,y,z,C,D,b,d,e,f,i,j]:=by
 match xs,h with
 |[l,m,q,r,u,x,y,z,C,D,b,d,e,f,i,j],_=>exact⟨l,m,q,r,u,x,y,z,C,D,b,d,e,f,i,j,rfl⟩
def adz(h:xs.length=16):BJ xs=jq xs:=by obtain⟨z,C,D,E,F,G,H,I,J,K,b,d,e,i,j,l,rfl⟩:=afa h;have hr:rows [z,C,D,E,F,G,H,I,J,K,b,d,e,i,j,l] 4=[z+C+D+E,z+C-D-E,z-C-D+E,z-C+D-E,F+G+H+I,F+G-H-I,F-G-H+I,F-G+H-I,J+K+b+d,J+K-b-d,J-K-b+d,J-K+b-d,e+i+j+l,e+i-j-l,e-i-j+l,e-i+j-l]:=rfl;have hc:∀L M N Q R S T V W X m q r u x y:Int,im [L,M,N,Q,R,S,T,V,W,X,m,q,r,u,x,y] 4=[L+R+W+r,M+S+X+u,N+T+m+x,Q+V+q+y,L+R-W-r,M+S-X-u,N+T-m-x,Q+V-q-y,L-R-W+r,M-S-X+u,N-T-m+x,Q-V-q+y,L-R+W-r,M-S+X-u,N-T+m-x,Q-V+q-y]:=λ_ _ _ _ _ _ _ _ _ _ _ _ _ _ _ _=>rfl;rw[BJ,hr,hc];have hl:∀f:Nat->Int,a6 f 16=[f 0,f 1,f 2,f 3,f 4,f 5,f 6,f 7,f 8,f 9,f 10,f 11,f 12,f 13,f 14,f 15]:=λ_=>rfl;rw[jq,hl];have hs:∀f:Nat->Int,jo f 16=0+f 0+f 1+f 2+f 3+f 4+f 5+f 6+f 7+f 8+f 9+f 10+f 11+f 12+f 13+f 14+f 15:=λ_=>rfl;have s0:sg 0=1:=rfl;have s1:sg 1=1:=rfl;have s2:sg 2=1:=rfl;have s3:sg 3=1:=rfl;have s4:sg 4=1:=rfl;have s5:sg 5=1:=rfl;have s6:sg 6= -1:=rfl;have s7:sg 7= -1:=rfl;have s8:sg 8=1:=rfl;have s9:sg 9= -1:=rfl;have Z:sg 10= -1:=rfl;have UQ:sg 11=1:=rfl;have UR:sg 12=1:=rfl;have US:sg 13= -1:=rfl;have UT:sg 14=1:=rfl;have s15:sg 15= -1:=rfl;simp only[oe,hs,kE,List.cons.injEq,and_true,List.getElem?_cons_zero,List.getElem?_cons_succ,Option.getD_some,Nat.reduceDiv,Nat.reduceMod,Nat.reduceMul,Nat.reduceAdd,s0,s1,s2,s3,s4,s5,s6,s7,s8,s9,Z,UQ,UR,US,UT,s15,Int.reduceMul,Int.reduceNeg,Int.one_mul];refine⟨?_,?_,?_,?_,?_,?_,?_,?_,?_,?_,?_,?_,?_,?_,?_,?_⟩;all_goals omega
def Si(I J:Int)(n:Nat)(w:AS)(h:4*I+J=(n:Int))(b:n<16)(d:0<=I/\I<=3)(f:0<=J/\J<=3):
  aiK Gz.prog 187 #[U O I,U O J] w λe w'=>e=be (U O (sg n))/\w=w':=by
 have he:∀w,(Instr.index 94 (a9 #[U O 1,U O 1,U O 1,U O 1,U O 1,U O 1,U O (-1),U O (-1),U O 1,U O (-1),U O (-1),U O 1,U O 1,U O (-1),U O 1,U O (-1)]) (U O (n:Int))).run Gz.prog w=.ok (U O (sg n)) w:=
  λw=>si [1,1,1,1,1,1,-1,-1,1,-1,-1,1,1,-1,1,-1] rfl b w
 go_enter Gz.gf func187,ntmps187;go_wp2;go_ret;exact⟨rfl,rfl⟩
end
section
open Go.RowKit
def adA(xs:List Int)(u:Nat){v:Nat}(y:Nat){x:Nat}(b:v<4)(d:x<4):kE xs (4*u+v) (4*y+x)=sg (4*u+y)*sg (4*v+x)*xs[4*y+x]?.getD 0:=by unfold kE;rw[show(4*u+v)/4=u by omega,show(4*u+v)%4=v by omega,show(4*y+x)/4=y by omega,show(4*y+x)%4=x by omega]
def adB(hx:xs.length=16)(hB:cY xs B)(V:0<=B)(IA:B<=1000000):
  aiK Gz.prog 161 #[a9 (arr xs)] w λe w'=>e=be (a9 (arr (jq xs)))/\Q w w':=by
 have s1:=bQ xs;rw[hx] at s1;have W:Q w (((w.alloc (ac (arr xs) 94)).alloc (ac (arr (rl 16 0)) 94)).alloc (ac (arr (rl 16 0)) 94)):=aU;have X:=((Bl.new w xs hx).alloc (ac (arr (rl 16 0)) 94)).alloc (ac (arr (rl 16 0)) 94);have R:=(Bl.zero (w.alloc (ac (arr xs) 94))).alloc (ac (arr (rl 16 0)) 94);have S:=Bl.zero ((w.alloc (ac (arr xs) 94)).alloc (ac (arr (rl 16 0)) 94));simp only[OF] at R S;have hs:(((w.alloc (ac (arr xs) 94)).alloc (ac (arr (rl 16 0)) 94)).alloc (ac (arr (rl 16 0)) 94)).heap.size=w.heap.size+1+1+1:=aj;have HB:=af hB;clear hB;go_enter Gz.gf func161,ntmps161;go_wp2;change Code.wp _ _ _ _ (((w.alloc (ac (arr xs) 94)).alloc (ac (arr (rl 16 0)) 94)).alloc (ac (arr (rl 16 0)) 94));generalize((w.alloc (ac (arr xs) 94)).alloc (ac (arr (rl 16 0)) 94)).alloc (ac (arr (rl 16 0)) 94)=wv at W X R S hs⊢;go_loopw[4] (λi wr=>∃u:Nat,u<=4/\i=U O u/\Hid (Bl wr w.heap.size xs/\Bl wr (w.heap.size+1) (rl 16 0)/\Bl wr (w.heap.size+1+1) (a6 (λj=>if j<4*u then oe xs j else 0) 16)/\Q w wr/\w.heap.size+1+1+1<=wr.heap.size)) (λi _=>4-(intOf i).toNat)
 case atStart=>exact⟨0,aa,rfl,X,R,by rw[Nat.mul_zero,sT];exact S,W,aa⟩
 case round=>
  obtain⟨u,hu,rfl,hK⟩:=hrel;clear X R S W hs;by_cases hlu:u<4
  ·have hu4:(u:Int)<4:=by omega
   go_wp2;go_loopw[5] (λi wr=>∃v:Nat,v<=4/\i=U O v/\Hid (Bl wr w.heap.size xs/\Bl wr (w.heap.size+1) (rl 16 0)/\Bl wr (w.heap.size+1+1) (a6 (λj=>if j<4*u+v then oe xs j else 0) 16)/\Q w wr/\w.heap.size+1+1+1<=wr.heap.size)) (λi _=>4-(intOf i).toNat)
   case atStart=>exact⟨0,aa,rfl,hK⟩
   case round=>
    clear hK;obtain⟨v,hv,rfl,hK⟩:=hrel;by_cases Z:v<4
    ·have UU:(v:Int)<4:=by omega
     obtain⟨T,rfl⟩:∃T,T=wr:=⟨_,rfl⟩;go_wp2;go_loopw[6,7] (λn i wq=>∃y:Nat,y<=4/\i=U O y/\n=U O (jo (kE xs (4*u+v)) (4*y))/\Hid (Q T wq)) (λ_ i _=>4-(intOf i).toNat)
     case atStart=>exact⟨0,aa,rfl,rfl,Q.refl _⟩
     case round=>
      obtain⟨y,hy,rfl,rfl,hq⟩:=hrel;by_cases hly:y<4
      ·have UW:(y:Int)<4:=by omega
       go_wp2;go_loopw[6,8] (λn i wq=>∃x:Nat,x<=4/\i=U O x/\n=U O (jo (kE xs (4*u+v)) (4*y+x))/\Hid (Q T wq)) (λ_ i _=>4-(intOf i).toNat)
       case atStart=>exact⟨0,aa,rfl,rfl,hq⟩
       case round=>
        clear hq;obtain⟨x,hx',rfl,rfl,hq⟩:=hrel;by_cases tX:x<4
        ·have UX:(x:Int)<4:=by omega
         obtain⟨i,hi⟩:∃i,4*y+x=i:=⟨_,rfl⟩;have l:i<16:=aa;have e1:4*(y:Int)+(x:Int)=(i:Int):=aa;have J:=(hK.out.1.q hq.out).at i l;have f:=Fl HB.out (4*u+v) i aa l;have K:=PX (λj hj=>Fl HB.out (4*u+v) j aa hj) V i aa;have E:=adA xs u y Z tX;have d:jo (kE xs (4*u+v)) (4*y+(x+1))=jo (kE xs (4*u+v)) (4*y+x)+kE xs (4*u+v) (4*y+x):=rfl;rw[hi] at E d⊢;rw[E] at f d;have o1:=Bm (4*u+y) aa;have o2:=Bm (4*v+x) aa;have T1:=af λz=>Si (u:Int) (y:Int) (4*u+y) z aa aa aa aa;have T2:=af λz=>Si (v:Int) (x:Int) (4*v+x) z aa aa aa aa;generalize sg (4*u+y)=s1 at f d o1 T1;generalize sg (4*v+x)=s2 at f d o2 T2;generalize xs[i]?.getD 0=b at f d J;generalize jo (kE xs (4*u+v)) i=n at d K⊢;have D: -1<=s1*s2/\s1*s2<=1:=by rcases o1 with rfl|rfl<;>rcases o2 with rfl|rfl<;>decide
         obtain⟨m,F⟩:∃s,s1*s2=s:=⟨_,rfl⟩;rw[F] at f d D;obtain⟨t,ht⟩:∃t,m*b=t:=⟨_,rfl⟩;rw[ht] at f d;have w1:EV.wrap (s1*s2)=m:=by rw[F];exact aB _ ⟨by omega,by omega⟩
         have tY:wrap64 (s1*s2)=m:=yz;have w2:EV.wrap (m*b)=t:=by rw[ht];exact aB _ ⟨by omega,by omega⟩
         have DP:wrap64 (m*b)=t:=by rw[<-IntWalk.i64_left,w2]
         have w3:EV.wrap (n+t)=n+t:=aB _ ⟨aa,aa⟩;have w4:EV.wrap (4*(y:Int))=4*(y:Int):=aB _ ⟨aa,aa⟩;have w5:EV.wrap (i:Int)=(i:Int):=aB _ ⟨aa,aa⟩;have L:(i:Int)<16:=aa;have jt:=af d;have HQ:=af hq.out;have HI:=af hi;clear d hq K f o1 o2 D F ht E hi;go_wp2;refine fe (λww=>ww.cell? ⟨w.heap.size,i,ns⟩=an (U O b)) (λ_=>false) ah J λhS=>?_;refine ai 0 (h:=ai 1 (h:=ai 2 (h:=ai 4 (h:=ai 5 (h:=ai 8 (h:=ai 9 (h:=ai 10 (h:=ai 11 (h:=ai 12 (h:=ai 13 (h:=?_)))))))))));refine bA (k:=3) ah rfl rfl λK2 r=>?_;go_simp;refine(T1.out _).mono ?_;rintro e wz⟨rfl,rfl⟩;refine r.out _ _ hS λhS=>?_;clear r K2;refine bh ?_;refine bA (k:=6) ah rfl rfl λK2 r=>?_;go_simp;refine(T2.out _).mono ?_;rintro e wz⟨rfl,rfl⟩;refine r.out _ _ hS λhS=>?_;clear r K2;refine bh ?_;refine ai 7 (h:=ai 14 (h:=ai 15 (h:=ai 16 (h:=?_))));refine lT ah ?_ _;clear hS J;go_wp2;go_roundw;case rel=>exact⟨x+1,aa,aF,by rw[jt.out],HQ.out.drew⟩
         case measure=>exact aT
        ·have UY:x=4:=by omega
         subst UY;go_wp2;go_roundw;case rel=>exact⟨y+1,aa,aF,by rw[Nat.mul_succ],hq⟩
         case measure=>exact aT
      ·have hye:y=4:=by omega
       subst hye;obtain⟨i,hi⟩:∃i,4*u+v=i:=⟨_,rfl⟩;have l:i<16:=aa;have e1:4*(u:Int)+(v:Int)=(i:Int):=aa;obtain⟨I,M,C,G,k5⟩:=hK.out;have d:=tc (oe xs) i l;have hn:jo (kE xs (4*u+v)) (4*4)=oe xs (4*u+v):=rfl;rw[hn,hi];rw[hi] at C;replace I:=I.q hq.out;replace M:=M.q hq.out;replace C:=C.q hq.out;replace G:=G.trans hq.out;have k6:=hq.out.size;have J:=C.at i l;have f1:=C.free i;rw[tl l (Nat.le_refl _)] at J;generalize oe xs i=n at d⊢;have n1:=af (C.set i n);rw[d] at n1;have n2:=af (M.aN (p:=⟨w.heap.size+1+1,i,ns⟩) rN (U O n));have n3:=af (I.aN (p:=⟨w.heap.size+1+1,i,ns⟩) uT (U O n));have n4:=af (G.set (p:=⟨w.heap.size+1+1,i,ns⟩) rO (U O n));have w4:EV.wrap (4*(u:Int))=4*(u:Int):=aB _ ⟨aa,aa⟩;have w5:EV.wrap (i:Int)=(i:Int):=aB _ ⟨aa,aa⟩;have L:(i:Int)<16:=aa;have N:4*u+(v+1)=i+1:=aa;have HI2:=af N;clear I M C G d hn hi N hq hK;go_wp2;go_roundw;case rel=>exact⟨v+1,aa,aF,n3.out,n2.out,by rw[HI2.out];exact n1.out,n4.out,by simp;omega⟩
       case measure=>exact aT
    ·have hve:v=4:=by omega
     subst hve;go_wp2;go_roundw;case rel=>exact⟨u+1,aa,aF,by rw[Nat.mul_succ];exact hK⟩
     case measure=>exact aT
  ·have hue:u=4:=by omega
   subst hue;obtain⟨I,M,C,G,k5⟩:=hK.out
   have k3':Bl wr (w.heap.size+1+1) (jq xs):=by have:a6 (λj=>if j<4*4 then oe xs j else 0) 16=jq xs:=sQ (oe xs);rw[<-this];exact C
   have hl:=Ad xs;have H4:=af G;obtain⟨zs,H⟩:∃zs,jq xs=zs:=⟨_,rfl⟩;rw[H] at k3' hl;have HZ:=af H;clear I C G hK H;go_wp2_with(first|(first|refine fw rfl rfl rfl aG ?_|refine fq aD rfl rfl aG ?_)|(refine jg rfl _ _ rfl _ rfl _ _ rfl dw aG ?_;intro w9 b9 g9 s9));refine ajz (v:=a9 (arr zs)) (akL aD _ _ _ _ _ _ _ aD b9.blk (Gz.gu underlying94) rfl (by rw[bQ,hl];exact nI)) rfl ⟨by rw[HZ.out],?_⟩;exact H4.out.grown g9 (λk e=>by have:=aJ e;omega)
end
section
open Go.RowKit
def steps:List Int:=[1,2,4,8,12,16,24,32,48,64,96,128,192,256,384,512]
def step(q:Nat):Int:=steps[q]?.getD 0
def wh{q:Nat}(h:q<16):1<=step q/\step q<=512:=by have:∀q,q<16->1<=step q/\step q<=512:=al;exact this q h
structure Tb(w:AS):Prop where
 pos:4<w.heap.size
 at_:∀q,q<16->w.cell? ⟨4,q,ns⟩=an (U O (step q))
def Tb.q(h:Tb w)(hq:Q w w'):Tb w':=⟨bH h.pos hq.size,λq b=>(hq.cell 4 q h.pos).trans (h.at_ q b)⟩
def cl(n M:Int):Int:=if n< -M then -M else if M<n then M else n
def GO{M:Int}(h:0<=M): -M<=cl n M/\cl n M<=M:=Df
def BK(l s:Int):Int:=cl (l*s) 4080
def To{a b:Int}(h:a=b):Ending.returned (U O a)=be (U O b):=by rw[h]
def oQ{q:Int}{t:Bool}(w:AS)(h:Hid (decide (0<=q/\q<=15)=t)):
  aiK Gz.prog 57 #[U O q] w λe w'=>e=be (a5 t)/\w=w':=by
 obtain rfl:=h.out;by_cases h1:0<=q
 ·by_cases b:q<=15
  ·rw[decide_eq_true ⟨h1,b⟩];go_enter Gz.gf func57,ntmps57;go_wp2;go_ret;exact⟨by simp[*],rfl⟩
  ·rw[decide_eq_false λh=>b h.2];go_enter Gz.gf func57,ntmps57;exact zm
 ·rw[decide_eq_false λh=>h1 h.1];go_enter Gz.gf func57,ntmps57;exact zm
def afb:aiK Gz.prog 85 #[U O n,U O (-4080),U O 4080] w λe w'=>e=be (U O (cl n 4080))/\w=w':=by have e:cl n 4080=min (max n (-4080)) 4080:=Df;have E:=af e;clear e;go_enter Gz.gf func85,ntmps85;go_wp2;all_goals(go_ret;exact⟨To yA,rfl⟩)
def age(n:Int)(w:AS):aiK Gz.prog 68 #[U O n,U O (-4080),U O 4080] w λe w'=>e=be (U O (cl n 4080))/\w=w':=by have e:cl n 4080=max (-4080) (min 4080 n):=Df;have E:=af e;clear e;go_enter Gz.gf func68,ntmps68;go_wp2;all_goals(go_ret;exact⟨To yA,rfl⟩)
def adC{s:Int}(h1:0<=n)(b:n<=1000000)(d:1<=s)(f:s<=1000):aiK Gz.prog 194 #[U O n,U O s] w λe w'=>e=be (U O ((2*n+s)/(2*s)))/\w=w':=by go_enter Gz.gf func194,ntmps194;go_wp2;go_ret;exact⟨rfl,rfl⟩
def aat(n:Int)(w:AS)(h1: -1000000000000<=n)(b:n<=1000000000000):
  aiK Gz.prog 84 #[U O n] w λe w'=>e=be (U O (if n<0 then -n else n))/\w=w':=by
 by_cases h:n<0
 ·rw[if_pos h];exact Dr
 ·rw[if_neg h];by_cases h0:n=0
  ·subst h0;exact Dr
  ·exact Dr
def Sj{l s:Int}(h1: -4080<=l)(b:l<=4080)(s1:1<=s)(s2:s<=512): -4080*512<=l*s/\l*s<=4080*512:=by
 constructor
 ·have d: -4080*512<= -4080*s:=Int.mul_le_mul_of_nonpos_left aa s2;have e: -4080*s<=l*s:=zn h1 aa;omega
 ·have d:l*s<=4080*s:=zn b aa;omega
def Xl(l q:Int)(n:Nat)(w:AS)(f:Tb w)(hq:q=(n:Int))(b:n<16)(h1: -4080<=l)(h:l<=4080):
  aiK Gz.prog 185 #[U O l,U O q] w λe w'=>e=be (U O (BK l (step n)))/\Q w w':=by
 have i:=f.at_ n b;obtain⟨s1,s2⟩:=wh b;unfold BK;generalize step n=s at i s1 s2⊢;have j:(n:Int)<16:=aa;have m:Hid (decide (0<=(n:Int)/\(n:Int)<=15)=true):=decide_eq_true ⟨aa,aa⟩;obtain⟨r,u⟩:=Sj h1 h s1 s2;obtain⟨p,d⟩:∃p,l*s=p:=⟨_,rfl⟩;rw[d] at r u⊢;have x:EV.wrap (l*s)=p:=by rw[d];exact aB _ ⟨by omega,by omega⟩
 go_enter Gz.gf func185,ntmps185;go_wp2;refine(oQ _ m).mono ?_;rintro e w'⟨rfl,rfl⟩;go_wp2;refine(afb).mono ?_;rintro e w'⟨rfl,rfl⟩;go_wp2;go_ret;exact⟨rfl,Q.refl _⟩
def Mk(q:Int){n:Nat}(w:AS)(hq:q=(n:Int))(f:n<16):
  aiK Gz.prog 67 #[U O q] w λe w'=>e=be (U O (step n))/\Q w w':=by
 have h:=(Bl.new w steps rfl).at n f;have i:Q w (w.alloc (ac (arr steps) 94)):=aU;have d:steps[n]?.getD 0=step n:=rfl;rw[d] at h;have b:=d;generalize step n=s at h b⊢;go_enter Gz.gf func67,ntmps67;go_wp2;refine(lV _ aa aa).mono ?_;rintro e w'⟨rfl,rfl⟩
 have hc:(w.alloc (ac #[U O 1,U O 2,U O 4,U O 8,U O 12,U O 16,U O 24,U O 32,U O 48,U O 64,U O 96,U O 128,U O 192,U O 256,U O 384,U O 512] 3)).cell? ⟨w.heap.size,n,ns⟩=an (U O s):=by rw[<-b];exact((ak.new w 3 (arr steps)).cell n).trans (nQ steps n f)
 exact Ds
end
section
open Go.RowKit
def iK(W H q:Int)(n:Nat):Bool:=dO W&&(dO H&&(decide (0<=q/\q<=15)&&decide ((n:Int)=H/8)))
def N4(W H:Int)(I:Bool)(q:Int)(A:Option ajF)(n c:Nat)(w:AS):
  aiK Gz.prog 71 #[a9 #[U O W,U O H,a5 I,U O q,Y A n c]] w λe w'=>e=be (a5 (iK W H q n))/\Q w w':=by
 unfold iK;cases i:dO W
 ·have b:=af i;go_enter Gz.gf func71,ntmps71;go_wp2;refine(kW b.out).mono ?_;rintro e w'⟨rfl,rfl⟩;exact vo
 ·have b:=af i;cases d:dO H
  ·have f:=af d;go_enter Gz.gf func71,ntmps71;go_wp2;refine(kW b.out).mono ?_;rintro e w'⟨rfl,rfl⟩;go_wp2;refine(kW f.out).mono ?_;rintro e w'⟨rfl,rfl⟩;exact vo
  ·have j:8<=H/\H<=32:=by unfold dO at d;have:=of_decide_eq_true d;omega
   have f:=af d;obtain⟨l,m⟩:=j;cases hq:decide (0<=q/\q<=15)
   ·have h:=hq;go_enter Gz.gf func71,ntmps71;go_wp2;refine(kW b.out).mono ?_;rintro e w'⟨rfl,rfl⟩;go_wp2;refine(kW f.out).mono ?_;rintro e w'⟨rfl,rfl⟩;go_wp2;refine(oQ _ h).mono ?_;rintro e w'⟨rfl,rfl⟩;exact vo
   ·have h:=hq;go_enter Gz.gf func71,ntmps71;go_wp2;refine(kW b.out).mono ?_;rintro e w'⟨rfl,rfl⟩;go_wp2;refine(kW f.out).mono ?_;rintro e w'⟨rfl,rfl⟩;go_wp2;refine(oQ _ h).mono ?_;rintro e w'⟨rfl,rfl⟩;go_wp2;all_goals(go_ret;exact⟨by first|(simp;done)|(simp[*];done)|rfl,aU⟩)
end
section
open Go.RowKit
def adD(W H:Int)(I:Bool)(q:Int)(A:Option ajF)(n c:Nat)(w:AS):
  aiK Gz.prog 42 #[a9 #[U O W,U O H,a5 I,U O q,Y A n c]] w λe w'=>e=be (a5 (iK W H q n))/\Q w w':=by
 have d:iK W H q n=(decide (8<=W/\W<=32)&&(decide (8<=H/\H<=32)&&((W%8==0)&&((H%8==0)&&(decide (0<=q/\q<=15)&&decide ((n:Int)=H/8)))))):=by unfold iK dO;by_cases h1:8<=W/\W<=32<;>by_cases m:8<=H/\H<=32<;>by_cases r:W%8=0<;>by_cases u:H%8=0<;>simp[h1,m,r,u]
 rw[d];cases f:decide (8<=W/\W<=32)
 ·have b:=af f;go_enter Gz.gf func42,ntmps42;go_wp2;(go_at_call 14;(with_reducible refine(bZ _ b).mono ?_);rintro e w'⟨rfl,rfl⟩)
  exact vo
 ·have h:=of_decide_eq_true f;have b:=af f;cases i:decide (8<=H/\H<=32)
  ·have j:=af i;go_enter Gz.gf func42,ntmps42;go_wp2;(go_at_call 14;(with_reducible refine(bZ _ b).mono ?_);rintro e w'⟨rfl,rfl⟩)
   go_wp2;(go_at_call 14;(with_reducible refine(bZ _ j).mono ?_);rintro e w'⟨rfl,rfl⟩)
   exact vo
  ·have l:=of_decide_eq_true i;have j:=af i;obtain⟨y,z⟩:=h;obtain⟨w3,C⟩:=l;cases hq:decide (0<=q/\q<=15)
   all_goals
    have x:=af hq;go_enter Gz.gf func42,ntmps42;go_wp2;(go_at_call 14;(with_reducible refine(bZ _ b).mono ?_);rintro e w'⟨rfl,rfl⟩)
    go_wp2;(go_at_call 14;(with_reducible refine(bZ _ j).mono ?_);rintro e w'⟨rfl,rfl⟩)
    go_wp2_with(first|(go_at_call 14;(with_reducible refine(bZ _ x).mono ?_);rintro e w'⟨rfl,rfl⟩));all_goals(go_ret;exact⟨by first|(simp;done)|(simp[*];done)|(simp[*];rfl)|rfl,aU⟩)
end
section
open Go.RowKit Go.WideShapes Go.ChangeShapes
def upd:List Int->Nat->List Int->List Int
 |xs,_,[]=>xs
 |xs,o,y::ys=>upd (xs.set o y) (o+1) ys
def wj:∀(ys xs:List Int)(o:Nat),(upd xs o ys).length=xs.length
 |[],_,_=>rfl
 |y::ys,xs,o=>by rw[upd,wj ys];simp
def AJ:∀(ys xs:List Int)(o k:Nat),o+ys.length<=xs.length->(upd xs o ys)[k]?.getD 0=if o<=k/\k<o+ys.length then ys[k-o]?.getD 0 else xs[k]?.getD 0
 |[],xs,o,k,h=>by rw[upd,if_neg];simp only[List.length_nil];omega
 |y::ys,xs,o,k,h=>by
  simp only[List.length_cons] at h⊢;rw[upd,AJ ys (xs.set o y) (o+1) k aA];by_cases b:k=o
  ·subst b;rw[if_neg aa,if_pos aa];simp[show k<xs.length by omega]
  ·by_cases h1:o+1<=k/\k<o+1+ys.length
   ·rw[if_pos h1,if_pos aa,show k-o=(k-(o+1))+1 by omega];simp
   ·rw[if_neg h1,if_neg aa];rw[List.getElem?_set_ne aa]
def sub(xs:List Int)(o k:Nat):List Int:=(xs.drop o).take k
def bS(h:o+k<=xs.length):(sub xs o k).length=k:=by simp[sub];omega
def gq(xs:List Int)(o k i:Nat)(h:i<k):(sub xs o k)[i]?.getD 0=xs[o+i]?.getD 0:=by unfold sub;rw[List.getElem?_take_of_lt h,List.getElem?_drop]
def nJ(h:xs.length=ys.length)(k:∀i,i<xs.length->xs[i]?.getD 0=ys[i]?.getD 0):xs=ys:=by refine List.ext_getElem h λi h1 b=>?_;have:=k i h1;simpa[h1,b] using this
def X9(h:o+ys.length<=xs.length):sub (upd xs o ys) o ys.length=ys:=by
 have b:o+ys.length<=(upd xs o ys).length:=by rw[wj];exact h
 refine nJ (bS b) λi hi=>?_;rw[bS b] at hi;rw[gq _ _ _ _ hi,AJ _ _ _ _ h,if_pos aa];congr 2;omega
def YC{b:Nat}(h:o+ys.length<=xs.length)(d:b+k<=xs.length)(f:b+k<=o\/o+ys.length<=b):sub (upd xs o ys) b k=sub xs b k:=by
 have e:b+k<=(upd xs o ys).length:=by rw[wj];exact d
 refine nJ (by rw[bS e,bS d]) λi hi=>?_;rw[bS e] at hi;rw[gq _ _ _ _ hi,gq _ _ _ _ hi,AJ _ _ _ _ h,if_neg aa]
structure Nb(t:TO)(n:Nat)(w:AS)(g:Nat)(xs:List Int):Prop where
 blk:ak w g t (arr xs)
 len:xs.length=n
section
variable{t:TO}{n:Nat}{w w':AS}{g:Nat}{xs ys:List Int}
def Nb.q(h:Nb t n w g xs)(hq:Q w w'):Nb t n w' g xs:=⟨h.blk.q hq,h.len⟩
def Nb.at(h:Nb t n w g xs)(k:Nat)(b:k<n):w.cell? ⟨g,k,ns⟩=an (U O (xs[k]?.getD 0)):=(h.blk.cell k).trans (nQ _ _ (by rw[h.len];exact b))
def Nb.free(h:Nb t n w g xs)(k:Nat):w.frozen? ⟨g,k,ns⟩=false:=h.blk.free k
def Nb.set(h:Nb t n w g xs)(k:Nat)(y:Int):Nb t n (w.setCell ⟨g,k,ns⟩ (U O y)) g (xs.set k y):=⟨by rw[<-Q6];exact h.blk.set k _,by rw[List.length_set];exact h.len⟩
def Nb.aN(h:Nb t n w g xs)(b:g≠p.block)(u:so):Nb t n (w.setCell p u) g xs:=⟨h.blk.aN b u,h.len⟩
def Nb.grown(h:Nb t n w g xs)(b:w.grownBy w' row)(d:an g≠row):Nb t n w' g xs:=⟨h.blk.grown b d,h.len⟩
def Nb.alloc(h:Nb t n w g xs)(o:Obj):Nb t n (w.alloc o) g xs:=h.q ((Q.refl w).alloc o)
def Nb.drew(h:Nb t n w g xs):Nb t n w.drew g xs:=h.q ((Q.refl w).drew)
def Nb.new(t:TO)(n:Nat)(w:AS)(xs:List Int)(h:xs.length=n):Nb t n (w.alloc (ac (arr xs) t)) w.heap.size xs:=⟨ak.new w _ _,h⟩
def Nb.lt(h:Nb t n w g xs):g<w.heap.size:=h.blk.lt
def Q7(xs:List Int)(o k:Nat):(arr xs).extract o (o+k)=arr (sub xs o k):=by simp only[arr,sub,List.extract_toArray,List.extract_eq_take_drop,List.map_take,List.map_drop];rw[show o+k-o=k by omega]
def abM(xs:List Int):(arr xs).toList=xs.map (alf .i64):=rfl
theorem Nb.range(h:Nb t n w g xs)(o k:Nat)(b:o+k<=n):w.rangeAt g o ((sub xs o k).map (alf .i64)):=λj v hv=>by
 have d:=h.len
 have hj:j<k:=by have:=(ia.1 hv).1;rw[ako,bS aa] at this;exact this
 have:=h.at (o+j) aa;exact Ks
def Nb.there(h:Nb t n w g xs)(o k:Nat)(b:o+k<=n):w.there g o k:=λj d=>⟨by rw[h.at (o+j) aa];rfl,h.free _⟩
def Nb.setCells:∀(ys:List Int)(w:AS)(xs:List Int)(o:Nat),Nb t n w g xs->Nb t n (w.setCells g o (ys.map (alf .i64))) g (upd xs o ys)
 |[],_,_,_,h=>h
 |y::ys,w,xs,o,h=>by rw[List.map_cons,World.setCells,upd];exact Nb.setCells ys _ _ _ (h.set o y)
def r7(g:Nat):∀(vs:List so)(o:Nat)(w:AS),w.grownBy (w.setCells g o vs) (an g)/\(w.setCells g o vs).heap.size=w.heap.size
 |[],_,_=>⟨⟨rfl,rfl,rfl,av _,λ_ _ _=>rfl⟩,rfl⟩
 |v::vs,o,w=>by rw[World.setCells];obtain⟨h1,f⟩:=r7 g vs (o+1) (w.setCell ⟨g,o,ns⟩ v);have d:(w.setCell ⟨g,o,ns⟩ v).heap.size=w.heap.size:=uU;refine⟨⟨h1.os,h1.tape,h1.output,by rw[f,d];exact av _,λk h b=>?_⟩,f.trans d⟩;exact(h1.block k (by rw[d];exact h) b).trans (jh w ⟨g,o,ns⟩ v k λe=>b oH)
variable{P:NO}{ops:Array akG}{rest:List akG}{o:akG}{a:Act}{Q':Exit->Act->AS->Prop}
def Ml(b:o.guard=ns)(ty:TO)(x:ajR)(e:o.op=.load ty x)(g off:Nat)(f:a.eval x=bi (an ⟨g,off,ns⟩))(xs:List Int)(h:Nb t n w g xs)(k:Nat)(i:off+k<=n)(d:TypeDesc)
  (hu:P.underlying ty=an d)(hd:d.isRow=true)(hi:(P.info? ty).map (·.size)=an k)
  (hK:ajU P ops Q' rest (a.put o.dst (a9 (arr (sub xs off k)))) w):ajU P ops Q' (o::rest) a w:=
 wpList_load_mid b ty x e g off f _ d (h.range off k i) hu hd (by rw[ako,bS (by have:=h.len;omega)];exact hi) hK
def e8(b:o.guard=ns)(ty:TO)(x:ajR)(f:o.op=.load ty x)(g:Nat)(i:a.eval x=bi (an ⟨g,0,ns⟩))(xs:List Int)(h:Nb t n w g xs)(d:TypeDesc)
  (hu:P.underlying ty=an d)(hd:d.isRow=true)(hi:(P.info? ty).map (·.size)=an n)
  (hK:ajU P ops Q' rest (a.put o.dst (a9 (arr xs))) w):ajU P ops Q' (o::rest) a w:=by
 have e:sub xs 0 n=xs:=by unfold sub;rw[List.drop_zero,List.take_of_length_le (Nat.le_of_eq h.len)]
 refine Ml b ty x f g 0 i xs h n aa d hu hd hi ?_;rw[e];exact hK
def ze(b:o.guard=ns)(ty:TO)(x y:ajR)(d:o.op=.store ty x y)(g off:Nat)(e:a.eval x=bi (an ⟨g,off,ns⟩))(xs ys:List Int)(f:a.eval y=a9 (arr ys))(h:Nb t n w g xs)(i:off+ys.length<=n)
  (hi:(P.info? ty).map (·.size)=an ys.length)
  (hK:∀w',Nb t n w' g (upd xs off ys)->w.grownBy w' (an g)->w'.heap.size=w.heap.size->ajU P ops Q' rest (a.put o.dst undef) w'):ajU P ops Q' (o::rest) a w:=by
 refine wpList_store_mid b ty x y d g off (arr ys) e f (by rw[bQ];exact h.there off _ i) (by rw[bQ];exact hi) (FX ys) ?_;obtain⟨h1,j⟩:=r7 g (arr ys).toList off w;exact hK _ (Nb.setCells ys w xs off h) h1 j
end
def Q8:∀(ys xs pre:List Int),xs.length=ys.length->upd (pre++xs) pre.length ys=pre++ys
 |[],xs,pre,h=>by have:xs=[]:=zy kU;subst this;rfl
 |y::ys,x::xs,pre,h=>by rw[upd];have e:(pre++x::xs).set pre.length y=(pre++[y])++xs:=aj;rw[e];have:=Q8 ys xs (pre++[y]) kU;simp only[List.length_append,List.length_singleton] at this;rw[this];simp
def abN(h:xs.length=ys.length):upd xs 0 ys=ys:=Q8 ys xs [] h
def dx{t:TO}{n:Nat}{P:NO}{ops:Array akG}{rest:List akG}{o:akG}{a:Act}{Q':Exit->Act->AS->Prop}(b:o.guard=ns)(ty:TO)(x y:ajR)(e:o.op=.store ty x y)(g:Nat)(f:a.eval x=bi (an ⟨g,0,ns⟩))(xs ys:List Int)(i:a.eval y=a9 (arr ys))(h:Nb t n w g xs)(d:ys.length=n)
  (hi:(P.info? ty).map (·.size)=an n)
  (hK:∀w',Nb t n w' g ys->w.grownBy w' (an g)->w'.heap.size=w.heap.size->ajU P ops Q' rest (a.put o.dst undef) w'):ajU P ops Q' (o::rest) a w:=
 ze b ty x y e g 0 f xs ys i h aa (by rw[d];exact hi) λw' h1 j l=>hK w' (by rw[abN (by rw[h.len,d])] at h1;exact h1) j l
abbrev UZ:=Rd
def ay(t:TO)(s:Nat)(w:AS)(B:Nat)(v:so)(n:Nat)(xs:List Int):Prop:=xs.length=n*s/\w.ownsRow B t s v n (xs.map (alf .i64))
section
variable{t:TO}{s:Nat}{w w':AS}{B B' g c n:Nat}{v:so}{A:Option ajF}{xs:List Int}
def ay.nil(t:TO)(s:Nat)(w:AS)(B:Nat):ay t s w B (Y ns 0 0) 0 []:=⟨aj,vw _ _ _ _⟩
def ay.iV(t:TO)(s:Nat)(w:AS)(B:Nat)(b:B<=w.heap.size):ay t s (w.alloc (ac #[] t)) B (Y (an ⟨w.heap.size,0,ns⟩) 0 0) 0 []:=
 ⟨aj,World.ownsRow_made w #[] 0 b (dk _) aj⟩
def ay.form(h:ay t s w B v n xs):∃A c,v=Y A n c:=by exact Dj
theorem ay.dE(h:ay t s w B v n xs):(v=Y ns 0 0/\n=0)\/∃g c,v=Y (an ⟨g,0,ns⟩) n c/\B<=g/\g<w.heap.size/\n<=c/\c<=maxLen:=by exact Dk
def ay.le(h:ay t s w B v n xs):n<=maxLen:=by exact DN
def ay.q(h:ay t s w B v n xs)(hq:Q w w'):ay t s w' B v n xs:=
 ⟨h.1,h.2.kept (w':=w') (row:=ns) ⟨hq.os,hq.tape,hq.output,hq.size,λk b _=>hq.block k b⟩ CS⟩
def ay.drewN(h:ay t s w B v n xs)(k:Nat):ay t s (w.drewN k) B v n xs:=aG
def ay.alloc(h:ay t s w B v n xs)(o:Obj):ay t s (w.alloc o) B v n xs:=h.q ((Q.refl w).alloc o)
def ay.drew(h:ay t s w B v n xs):ay t s w.drew B v n xs:=aG
def ay.below(h:ay t s w B v n xs)(k:Nat)(b:v.ownBlock=an k):B<=k:=(h.2.lt k b).1
def ay.other(h:ay t s w B v n xs)(d:w.grownBy w' row)(b:v.ownBlock=ns\/v.ownBlock≠row):ay t s w' B v n xs:=⟨h.1,h.2.kept d b⟩
def ay.aN(h:ay t s w B v n xs)(b:p.block<B)(u:so):ay t s (w.setCell p u) B v n xs:=⟨h.1,ownsRow_setCell_below h.2 b u⟩
def ay.cell(h:ay t s w B (Y (an ⟨g,0,ns⟩) n c) n xs)(k:Nat)(b:k<n*s):w.cell? ⟨g,k,ns⟩=an (U O (xs[k]?.getD 0)):=by
 have:=h.2.cells (g:=g) rfl k (U O (xs[k]?.getD 0)) (by have:=h.1;simp[show k<xs.length by omega]);by_cases h0:k=0
 ·subst h0;simpa[Addr.add] using this
 ·simpa[Addr.add,h0] using this
def ay.rd(h:ay t s w B (Y A n c) n xs):Rd w w.heap.size A xs:=λj=>by
 have l:=h.1;rcases h.dE with⟨b,m⟩|⟨g,d,b,q,e,_⟩
 ·simp_all
 ·have f:A=an ⟨g,0,ns⟩:=by injection b
  subst f;refine⟨g,0,rfl,e,λi hi=>?_⟩;rw[Nat.zero_add];exact h.cell i aa
def ay.frozen(h:ay t s w B (Y (an ⟨g,0,ns⟩) n c) n xs)(k:Nat):w.frozen? ⟨g,k,ns⟩=false:=by
 rcases h.2.2 with⟨b,_⟩|⟨d,e,f,b,l,i,_⟩
 ·cases b
 ·have:g=d:=by injection b with h1;injection h1 with j;injection j
  subst this;simp[World.frozen?,i]
theorem Rd.range{b:Nat}(h:Rd w B (an ⟨b,o,ns⟩) xs)(i k:Nat)(u:i+k<=xs.length)(l:0<xs.length):w.rangeAt b (o+i) ((sub xs i k).map (alf .i64)):=λj v f=>by
 obtain⟨x,y,e,_,hc⟩:=h l;injection e with e;injection e with m q;subst m;subst q
 have r:j<k:=by have:=(ia.1 f).1;rw[ako,bS aa] at this;exact this
 have:=hc (i+j) aa;rw[Nat.add_assoc,this,<-f,<-gq xs i k j r];have d:j<(sub xs i k).length:=fu;simp[d]
variable{P:NO}{ops:Array akG}{rest:List akG}{o:akG}{a:Act}{Q':Exit->Act->AS->Prop}
end
end
section
open Go.RowKit Go.WideShapes Go.ChangeShapes
def bB(w:AS)(B:Nat)(A:Option ajF)(xs:List Int):Prop:=
 0<xs.length->∃b o,A=an ⟨b,o,ns⟩/\b<B/\∀i,i<xs.length->w.cell? ⟨b,o+i,ns⟩=an (.int .u8 (xs[i]?.getD 0))
def bB.nil(w:AS)(B:Nat)(A:Option ajF):bB w B A []:=λh=>absurd h aj
def bB.keep{B:Nat}(h:bB w B A xs)(e:∀b o,b<B->w'.cell? ⟨b,o,ns⟩=w.cell? ⟨b,o,ns⟩):bB w' B A xs:=λf=>by obtain⟨b,o,rfl,d,hc⟩:=h f;exact⟨b,o,rfl,d,λi hi=>(e b _ d).trans (hc i hi)⟩
def bB.more{B B':Nat}(h:bB w B A xs)(e:B<=B'):bB w B' A xs:=λd=>by obtain⟨b,o,rfl,f,hc⟩:=h d;exact⟨b,o,rfl,aa,hc⟩
def bB.q{B:Nat}(h:bB w B A xs)(hq:Q w w')(d:B<=w.heap.size):bB w' B A xs:=
 h.keep λb o e=>hq.cell b o aa
def bB.drewN{B:Nat}(h:bB w B A xs)(k:Nat):bB (w.drewN k) B A xs:=h
def bB.alloc{B:Nat}(h:bB w B A xs)(b:B<=w.heap.size)(o:Obj):bB (w.alloc o) B A xs:=h.q ((Q.refl w).alloc o) b
def bB.grown{B:Nat}(h:bB w B A xs)(d:w.grownBy w' row)(f:B<=w.heap.size)(hr:∀g,row=an g->B<=g):bB w' B A xs:=
 h.keep λb o i=>oM (a:=⟨b,o,ns⟩) (d.block b aa λe=>by have:=hr _ e.symm;omega)
def aK(w:AS)(B:Nat)(v:so)(n:Nat)(xs:List Int):Prop:=xs.length=n/\w.ownsRow B 5 1 v n (xs.map (alf .u8))
section
variable{w w':AS}{B B' g c n:Nat}{v:so}{A:Option ajF}{xs:List Int}
def aK.nil(w:AS)(B:Nat):aK w B (Y ns 0 0) 0 []:=⟨rfl,vw _ _ _ _⟩
def aK.iV(w:AS)(B:Nat)(b:B<=w.heap.size):aK (w.alloc (ac #[] 5)) B (Y (an ⟨w.heap.size,0,ns⟩) 0 0) 0 []:=
 ⟨rfl,World.ownsRow_lit w #[] 0 b (dk _) rfl⟩
def aK.len(h:aK w B v n xs):xs.length=n:=h.1
def aK.form(h:aK w B v n xs):∃A c,v=Y A n c:=by exact Dj
theorem aK.dE(h:aK w B v n xs):(v=Y ns 0 0/\n=0)\/∃g c,v=Y (an ⟨g,0,ns⟩) n c/\B<=g/\g<w.heap.size/\n<=c/\c<=maxLen:=by exact Dk
def aK.le(h:aK w B v n xs):n<=maxLen:=by exact DN
def aK.q(h:aK w B v n xs)(hq:Q w w'):aK w' B v n xs:=
 ⟨h.1,h.2.kept (w':=w') (row:=ns) ⟨hq.os,hq.tape,hq.output,hq.size,λk b _=>hq.block k b⟩ CS⟩
def aK.drewN(h:aK w B v n xs)(k:Nat):aK (w.drewN k) B v n xs:=aG
def aK.alloc(h:aK w B v n xs)(o:Obj):aK (w.alloc o) B v n xs:=h.q ((Q.refl w).alloc o)
def aK.drew(h:aK w B v n xs):aK w.drew B v n xs:=aG
def aK.block(h:aK w B (Y (an ⟨g,0,ns⟩) n c) n xs):B<=g/\g<w.heap.size:=by
 rcases h.dE with⟨b,_⟩|⟨_,_,b,d,e,_⟩
 ·cases b
 ·simp_all
def aK.at(h:aK w B (Y (an ⟨g,0,ns⟩) n c) n xs)(k:Nat)(b:k<n):w.cell? ⟨g,k,ns⟩=an (.int .u8 (xs[k]?.getD 0)):=by exact Kk
def aK.free(h:aK w B (Y (an ⟨g,0,ns⟩) n c) n xs)(k:Nat):w.frozen? ⟨g,k,ns⟩=false:=World.ownsRow.frozenAt h.2 k
def aK.set(h:aK w B (Y (an ⟨g,0,ns⟩) n c) n xs)(k:Nat)(x:Int):aK (w.setCell ⟨g,k,ns⟩ (.int .u8 x)) B (Y (an ⟨g,0,ns⟩) n c) n (xs.set k x):=by exact Kl
def aK.rd(h:aK w B (Y A n c) n xs):bB w w.heap.size A xs:=λj=>by
 have l:=h.1;rcases h.dE with⟨b,m⟩|⟨g,d,b,q,e,_⟩
 ·omega
 ·have f:A=an ⟨g,0,ns⟩:=by injection b
  subst f;refine⟨g,0,rfl,e,λi hi=>?_⟩;rw[Nat.zero_add];exact h.at i aa
def aK.mono(h:aK w B v n xs)(b:B'<=B):aK w B' v n xs:=by exact Dl
def aK.other(h:aK w B v n xs)(d:w.grownBy w' row)(b:v.ownBlock=ns\/v.ownBlock≠row):aK w' B v n xs:=⟨h.1,h.2.kept d b⟩
def aK.ne{w2:AS}{b d:Nat}{v2:so}(h:aK w B v n xs)(h':aK w2 b v2 d ys)(e:w.heap.size<=b):v.ownBlock=ns\/v.ownBlock≠v2.ownBlock:=by
 cases hv:v.ownBlock with
 |none=>exact .inl rfl
 |some k=>exact Km
def aK.Tm{a:AS}(h:aK w B v n xs)(hq:Q a w)(b:a.heap.size<=B)(d:w.grownBy w' v.ownBlock):Q a w':=
 hq.grown d λk e=>aI b (h.2.lt k e).1
def aK.aN(h:aK w B v n xs)(b:p.block<B)(u:so):aK (w.setCell p u) B v n xs:=⟨h.1,ownsRow_setCell_below h.2 b u⟩
end
end
end Go.Proofs.Q0
