/-
  LINT: an item that is handed, opened.
-/
import Derived.Test.YtppjieiiibgagaaGreatDoorQXAv26toXGlob
import Derived.Test.YtppjieiiibgagaaGreatDoorQXL19toXL25
import Derived.Test.YtppjieiiibgagaaGreatDoorQXM5toXGo
set_option linter.all false
namespace Go.Av
open Go Go.RowKit Go.Proofs List
section
variable {P:Program} {B n:Nat} {t e:TypeId} {a:List AV}
def cf {k:IntKind} (D:P.underlying t=some (.int k)) (h:Shp P B n t a):∃i,a=[.int k i]:=by
 cases n with
 |zero=>exact h.elim
 |succ n=>simpa only[Shp,D]using h
def eV (D:P.underlying t=some .string) (h:Shp P B n t a):∃s:List UInt8,s.length<=B/\a=[.str s]:=by
 cases n with
 |zero=>exact h.elim
 |succ n=>simpa only[Shp,D]using h
def dg {fs:Array Field} (D:P.underlying t=some (.struct fs)) (h:Shp P B n t a):∃m,n=m+1/\ShpF (Shp P B m) fs.toList a:=by
 cases n with
 |zero=>exact h.elim
 |succ n=>exact⟨n,rfl,by simpa only[Shp,D]using h⟩
def kD {α:Type} {f:α->List AV} {q:α->Prop}:∀rows:List (List AV),(∀r∈rows,∃x,r=f x/\q x)->∃l:List α,rows=l.map f/\∀x∈l,q x
 |[],_=>⟨[],rfl,λx E=>by cases E⟩
 |r::rows,h=>by
  obtain⟨x,E,J⟩:=h r (by simp);obtain⟨l,I,D⟩:=kD rows λr M=>h r (by simp[M]);refine⟨x::l,by rw[E,I];rfl,λy F=>?_⟩
  rcases mem_cons.1 F with rfl|F
  ·exact J
  ·exact D y F
def lr {α:Type} {f:α->List AV} {q:α->Prop} {sz:Nat} (O:P.underlying t=some (.slice e)) (I:P.cellsOf e=sz) (D:∀m,m<n->∀r,Shp P B m e r->∃x,r=f x/\q x) (h:Shp P B n t a):
  ∃l:List α,a=[.lst sz (l.map f)]/\l.length<=B/\l.length*P.bytesOf e<=B/\∀x∈l,q x:=by
 cases n with
 |zero=>exact h.elim
 |succ n=>
  simp only[Shp,O]at h;obtain⟨rows,rfl,J,E,N⟩:=h;obtain⟨l,rfl,M⟩:=kD rows λr F=>D n (Nat.lt_succ_self n) r (N r F);exact⟨l,by rw[I],by simpa using J,by simpa using E,M⟩
def gl {α:Type} {f:α->List AV} {q:α->Prop} {sz:Nat} (M:P.underlying t=some (.slice e)) (E:P.cellsOf e=sz) (D:∀m,m<n->∀r,Shp P B m e r->∃x,r=f x/\q x) (h:Shp P B n t a):
  ∃l:List α,a=[.lst sz (l.map f)]/\l.length<=B/\∀x∈l,q x:=by
 obtain⟨l,F,I,_,J⟩:=lr M E D h
 exact⟨l,F,I,J⟩
end
def toL {α:Type} (l:List α):l.toArray.toList=l:=rfl
abbrev Big (n:Nat):Prop:=n<1000000000000000000
def ek {n:Nat} (h:n<=reachBytes):Big n:=by unfold reachBytes at h;show n<_;omega
def open_id {n:Nat} {a:List AV} (h:Shp Tryz.prog reachBytes n 23 a):∃i:Idd,a=i.cs:=by
 obtain⟨m,rfl,g⟩:=dg Tryz.underlying23 h;clear h;simp only[toL,ShpF]at g;obtain⟨N,V,rfl,D,O,X,rfl,E,T,Y,rfl,F,rfl⟩:=g;obtain⟨I,rfl⟩:=cf Tryz.underlying3 D;obtain⟨J,rfl⟩:=cf Tryz.underlying3 E;obtain⟨M,rfl⟩:=cf Tryz.underlying3 F;exact⟨⟨I,J,M⟩,rfl⟩
def open_mark {n:Nat} {a:List AV} (h:Shp Tryz.prog reachBytes n 116 a):∃D E F:Int,a=[.i D,.i E,.i F]:=by
 obtain⟨m,rfl,g⟩:=dg Tryz.underlying116 h;clear h;simp only[toL,ShpF]at g;obtain⟨N,V,rfl,I,O,X,rfl,J,T,Y,rfl,M,rfl⟩:=g;obtain⟨D,rfl⟩:=cf Tryz.underlying3 I;obtain⟨E,rfl⟩:=cf Tryz.underlying3 J;obtain⟨F,rfl⟩:=cf Tryz.underlying3 M;exact⟨D,E,F,rfl⟩
def open_word {n:Nat} {a:List AV} (h:Shp Tryz.prog reachBytes n 118 a):∃w:Wd,a=w.cs/\Big w.text.length:=by
 obtain⟨m,rfl,g⟩:=dg Tryz.underlying118 h;clear h;simp only[toL,ShpF]at g;obtain⟨N,T,rfl,D,O,V,rfl,E,rfl⟩:=g;obtain⟨s,F,rfl⟩:=eV Tryz.underlying9 D;obtain⟨I,J,M,rfl⟩:=open_mark E;exact⟨⟨s,I,J,M⟩,rfl,ek F⟩
def open_step {n:Nat} {a:List AV} (h:Shp Tryz.prog reachBytes n 85 a):∃w:Stp,a=w.cs/\Big w.label.length:=by
 obtain⟨m,rfl,g⟩:=dg Tryz.underlying85 h;clear h;simp only[toL,ShpF]at g;obtain⟨J,N,rfl,D,M,O,rfl,E,rfl⟩:=g;obtain⟨I,rfl⟩:=cf Tryz.underlying3 D;obtain⟨s,F,rfl⟩:=eV Tryz.underlying9 E;exact⟨⟨I,s⟩,rfl,ek F⟩
def lA {n:Nat} {a:List AV} (h:Shp Tryz.prog reachBytes n 31 a):∃s:Sta,a=[.i s.kind,.i s.day,.str s.event]/\Big s.event.length:=by
 obtain⟨m,rfl,g⟩:=dg Tryz.underlying31 h;clear h;simp only[toL,ShpF]at g;obtain⟨N,V,rfl,D,O,X,rfl,E,T,Y,rfl,F,rfl⟩:=g;obtain⟨J,rfl⟩:=cf Tryz.underlying3 D;obtain⟨M,rfl⟩:=cf Tryz.underlying3 E;obtain⟨s,I,rfl⟩:=eV Tryz.underlying9 F;exact⟨⟨J,M,s⟩,rfl,ek I⟩
def lJ {n:Nat} {a:List AV} (h:Shp Tryz.prog reachBytes n 24 a):∃l:List Wd,a=[.lst 4 (l.map Wd.cs)]/\Big l.length/\∀w∈l,Big w.text.length:=by
 obtain⟨l,D,E,F⟩:=gl (f:=Wd.cs) (q:=λw=>Big w.text.length) (sz:=4) Tryz.underlying24 (by kernel_rfl) (λm _ r I=>open_word I) h;exact⟨l,D,ek E,F⟩
def mB {n:Nat} {a:List AV} (h:Shp Tryz.prog reachBytes n 28 a):∃l:List Stp,a=[.lst 2 (l.map Stp.cs)]/\Big l.length/\∀w∈l,Big w.label.length:=by
 obtain⟨l,D,E,F⟩:=gl (f:=Stp.cs) (q:=λw=>Big w.label.length) (sz:=2) Tryz.underlying28 (by kernel_rfl) (λm _ r I=>open_step I) h;exact⟨l,D,ek E,F⟩
def nF {n:Nat} {a:List AV} (h:Shp Tryz.prog reachBytes n 29 a):∃l:List (List UInt8),a=[.lst 1 (l.map srow)]/\Big l.length/\∀w∈l,Big w.length:=by
 obtain⟨l,D,E,F⟩:=gl (f:=srow) (q:=λw=>Big w.length) (sz:=1) Tryz.underlying29 (by kernel_rfl) (λm _ r I=>by
  obtain⟨s,J,rfl⟩:=eV Tryz.underlying9 I
  exact⟨s,rfl,ek J⟩) h
 exact⟨l,D,ek E,F⟩
def nN:∀(n:Nat) (a:List AV),Shp Tryz.prog reachBytes n 27 a->∃u:U,a=u.cs/\u.fit:=by
 intro n
 induction n using Nat.strongRecOn with
 |ind n ih=>
  intro a h;obtain⟨m,rfl,g⟩:=dg Tryz.underlying27 h;clear h;simp only[toL,ShpF]at g;obtain⟨a1,b1,rfl,D,a2,b2,rfl,E,a3,b3,rfl,F,a4,b4,rfl,I,a5,b5,rfl,J,a6,b6,rfl,M,rfl⟩:=g;obtain⟨i,rfl⟩:=open_id D;obtain⟨k,rfl⟩:=cf Tryz.underlying3 E;obtain⟨s,T,rfl⟩:=eV Tryz.underlying9 F;obtain⟨N,rfl,V,X⟩:=lJ I;obtain⟨wd,rfl,Y,Z⟩:=lJ J;obtain⟨ks,rfl,q5,q6⟩:=gl (f:=U.cs) (q:=U.fit) (sz:=8) Tryz.underlying25 (by kernel_rfl) (λm' hm r O=>ih m' (by omega) r O) M;refine⟨⟨i,k,s,N,wd,ks⟩,?_,(sj _).2 ⟨ek T,⟨V,X⟩,⟨Y,Z⟩,ek q5,q6⟩⟩;rw[hH];rfl
def msr (l:List U):Nat:=(l.map λx=>x.flat.length).sum
def kZ:msr []=0:=rfl
def dn (x:U) (l:List U):msr (x::l)=x.flat.length+msr l:=by simp[msr]
def gE (a b:List U):msr (a++b)=msr a+msr b:=by simp[msr]
def eC:∀l:List U,l.length<=msr l
 |[]=>Nat.le_refl _
 |x::l=>by have:=eC l;have:=x.flat_pos;rw[dn,length_cons];omega
def im:∀us:List U,msr us=(U.flats us).length
 |[]=>by rw[bH];rfl
 |u::us=>by rw[dn,im us,aF,length_append]
def jp (p:U->Bool):∀l:List U,msr (l.filter p)<=msr l
 |[]=>Nat.le_refl _
 |x::l=>by
  have:=jp p l;rw[filter_cons];split
  ·rw[dn,dn];omega
  ·rw[dn];omega
def gk (s:Stp):∀l:List U,msr (aD l s)<=msr l
 |[]=>Nat.le_refl _
 |x::l=>by
  have D:=gk s l;have E:=jp (λk=>ay k s) x.kids
  have F:msr x.kids=x.flat.length-1:=by rw[im,U.flat_eq];simp
  have e:aD (x::l) s=x.kids.filter (λk=>ay k s)++aD l s:=by simp[aD]
  rw[e,gE,dn];omega
def ow {u x:U} (D:x∈u.flat):x.flat.length<=u.flat.length:=by
 revert D;refine U.ind (p:=λu=>x∈u.flat->x.flat.length<=u.flat.length) (λu ih D=>?_) u;rw[U.flat_eq]at D
 rcases mem_cons.1 D with rfl|D
 ·exact Nat.le_refl _
 ·obtain⟨y,E,D⟩:=cc D;have F:=ih y E D;have I:=sH E;rw[U.flat_eq u,length_cons];omega
def msr_le {N:Nat}:∀{l:List U},(∀x∈l,x.flat.length<=N)->msr l<=l.length*N
 |[],_=>Nat.zero_le _
 |x::l,h=>by
  have E:=msr_le (l:=l) λy D=>h y (by simp[D]);have F:=h x (by simp);rw[dn,length_cons,Nat.add_mul];omega
def msr_flat (u:U):msr u.flat<=u.flat.length*u.flat.length:=msr_le λx D=>ow D
def cG (u:U) (s:Stp):List U:=if lc s then [u]else u.flat.filter λx=>ay x s
def jn (u:U) (s:Stp):msr (cG u s)<=u.flat.length*u.flat.length:=by
 unfold cG;split
 ·have:=u.flat_pos;rw[dn,kZ];exact Nat.le_mul_of_pos_right _ this
 ·exact Nat.le_trans (jp _ _) (msr_flat u)
def np:∀(r:List Stp) (l:List U),msr (r.foldl aD l)<=msr l
 |[],l=>Nat.le_refl _
 |s::r,l=>Nat.le_trans (np r (aD l s)) (gk s l)
def kb (u:U) (p:List Stp):(eL u p).length<=u.flat.length*u.flat.length:=by
 refine Nat.le_trans (eC _) ?_;unfold eL;split
 ·exact Nat.zero_le _
 ·split
  ·have:=u.flat_pos;rw[dn,kZ];exact Nat.le_mul_of_pos_right _ this
  ·exact Nat.le_trans (np _ _) (jn u _)
def iY (l:List U) (x:U) (s:Stp):aD (l++[x]) s=aD l s++x.kids.filter λk=>ay k s:=by simp[aD]
def zPre (l:List U) (y:Stp) (ks:List U) (j k:Nat):List U:=aD (l.take j) y++(ks.take k).filter λx=>ay x y
def nc (l:List U) (y:Stp) (ks:List U) (j:Nat):zPre l y ks j 0=aD (l.take j) y:=by simp[zPre]
def nA (l:List U) (y:Stp) (ks:List U) (j:Nat):zPre l y ks j ks.length=aD (l.take j) y++ks.filter λx=>ay x y:=by simp[zPre]
def p9 (l:List U) (y:Stp) (ks:List U) (j k:Nat):(zPre l y ks j k).length=(aD (l.take j) y).length+((ks.take k).filter λx=>ay x y).length:=by simp[zPre]
def pX {l:List U} {y:Stp} {ks:List U} {j k:Nat} {q:U} {r:List U} (E:Rest ks k q r) (D:ay q y=true):zPre l y ks j (k+1)=zPre l y ks j k++[q]:=by
 unfold zPre;rw[E.take,filter_append,append_assoc];simp[D]
def pT {l:List U} {y:Stp} {ks:List U} {j k:Nat} {q:U} {r:List U} (E:Rest ks k q r) (D:ay q y=false):zPre l y ks j (k+1)=zPre l y ks j k:=by
 unfold zPre;rw[E.take,filter_append];simp[D]
section
variable (G:Glob)
def f142 (u:U) (a b:Int) (M:u.Short) (T:u.wt<=90000000000):Pure G Tryz.prog 142 [.agg u.cs,.i a,.i b] (.agg (bi u a b).cs):=by
 have J:=f262 G a b u M 1 0 (by decide) (by decide) (by have:=M.1.2;omega) (by omega);unfold jU at J;have I:(U.stamp a b u 1 0).1=bi u a b:=rfl;rw[I]at J;refine Pure.w c142 λR O=>?_;unfold s142 r142;(repeat' (first|(with_reducible refine ab J ?_)|simp only[EV,seval,D]|simp only[EV,seval]|(with_reducible intro N F;(try(have E:=F;simp only[EVK]at E;first|(have D:=AI E D)|(have D:=E))))|fail));exact RET.eq O rfl
set_option maxHeartbeats 2000000 in
def f150 (u:U) (p:List Stp) (ht:u.Tame) (hN:u.flat.length<=1024) (hp:p.length<1000000) (bn:∀s∈p,s.label.length<1000000000000000000):Pure G Tryz.prog 150 [.agg u.cs,.lst 2 (p.map Stp.cs)] (.lst 8 ((eL u p).map U.cs)):=by
 have hM:=f73 G p hp bn;have hE:=f146 G u ht;refine Pure.w c150 λR X=>?_;unfold s150 r150;unfold eL at X
 cases V:cP p with
 |false=>
  rw[V,if_pos rfl]at X;rw[V]at hM;(repeat' (first|(with_reducible refine ab hM ?_)|simp only[EV,seval]|fail));exact X _ _ (Or.inl (Or.inr rfl))
 |true=>
  rw[V]at hM X;simp only[Bool.true_eq_false,if_false]at X;by_cases h0:p=[]
  ·subst h0;simp only[map_nil]at hM ⊢;(repeat' (first|(with_reducible refine ab hM ?_)|simp only[EV,seval]|(with_reducible intro J F;(try(have E:=F;simp only[EVK]at E;(have D:=E))))|(refine⟨[u.cs],rfl,(by simp[ra]),(by simp),?_⟩)|fail));exact X _ _ (Or.inl (Or.inr ⟨rfl,rfl⟩))
  ·obtain⟨s,r,ac⟩:∃s r,p=s::r:=by cases p<;>simp_all
   have cp:∀x σ,AVle x (.lst 8 ((r.foldl aD (cG u s)).map U.cs))->RET x σ R:=by
    rw[ac]at X;exact X
   clear X
   have dc:p.length=r.length+1:=by rw[ac];simp
   have T:(p.map Stp.cs).getD 0 []=s.cs:=by rw[ac];rfl
   have e0:decide ((p.length:Int)=0)=false:=decide_eq_false (by omega);have hB:=f136 G s.kind s.label;have bo:u.flat.length*u.flat.length<=1048576:=Nat.mul_le_mul hN hN;have bs:=jn u s;have aw:=eC (cG u s)
   cases hb:lc s
   case' true=>
    have bh:(decide (s.kind=0)&&decide (s.label=[]))=true:=hb;rw[bh]at hB
    have aa:cG u s=[u]:=by unfold cG;rw[hb];rfl
    (repeat' (first|(with_reducible first|refine AI (by omega) ?_|refine ab hM ?_|refine ab hB ?_)|simp only[EV,seval,T,e0,D]|simp only[EV,seval,T,e0]|(with_reducible intro J F;(try(have E:=F;simp only[EVK]at E;first|(have D:=AI E D)|(have D:=E))))|(refine⟨[],rfl,(by simp),rfl,?_⟩)|(refine⟨[u.cs],rfl,(by simp[ra]),(by simp),?_⟩)|(refine cx (by exact bp (by assumption)) rfl rfl (by simp<;>omega) (λgn=>?_))|fail))
   case' false=>
    have bh:(decide (s.kind=0)&&decide (s.label=[]))=false:=hb;rw[bh]at hB
    have aa:cG u s=u.flat.filter λx=>ay x s:=by unfold cG;rw[hb];rfl
    (repeat' (first|(with_reducible first|refine AI (by omega) ?_|refine ab hM ?_|refine ab hB ?_|refine ab hE ?_)|simp only[EV,seval,T,e0,D]|simp only[EV,seval,T,e0]|(with_reducible intro J F;(try(have E:=F;simp only[EVK]at E;(have D:=E))))|(refine⟨[],rfl,(by simp),rfl,?_⟩)|fail));refine ap (ι:=Option Nat) u.flat (λi r c=>True) (λi c=>[(1,.lst 2 (p.map Stp.cs)),(5,.own c 27 8 (((u.flat.take i).filter λx=>ay x s).map U.cs)),(6,.lst 8 (u.flat.map U.cs)),(7,.i i)]) (λi c=>tokS c 27 (((u.flat.take i).filter λx=>ay x s).length*8)) (some J) trivial (dT _ _) (by omega) (λi x r c V O hw=>?_) (λc V hn=>?_)
    ·have hA:=f264 G x s;have dl:((u.flat.take i).filter λx=>ay x s).length<=i:=Nat.le_trans (length_filter_le _ _) (by rw[length_take];omega);have d0:=O.lt
     cases Z:ay x s
     case' true=>
      have ef:(u.flat.take (i+1)).filter (λx=>ay x s)=(u.flat.take i).filter (λx=>ay x s)++[x]:=by rw[O.take,filter_append];simp[Z]
     case' false=>
      have ef:(u.flat.take (i+1)).filter (λx=>ay x s)=(u.flat.take i).filter (λx=>ay x s):=by rw[O.take,filter_append];simp[Z]
     all_goals
      rw[Z]at hA
      (repeat' (first|(with_reducible first|refine AI (by omega) ?_|refine ab hA ?_)|simp only[EV,seval,O.yes,O.le0,O.lt',O.row,hw,O.get,T,D]|(with_reducible intro J F;(try(have E:=F;simp only[EVK]at E;(have D:=E))))|(with_reducible first|refine ag ?_ ?_|refine ai ?_)|(refine⟨[x.cs],rfl,(by simp[ra]),(by simp),?_⟩)|(refine cx (by((simp only[length_map]<;>exact bp (by assumption)))) rfl rfl (by simp<;>omega) (λgn=>?_))|fail))
     all_goals first
      |(refine ak O gn trivial ?_
        rw[ef,map_append,length_append]
        simp only[length_map,map_cons,map_nil,length_append,length_cons,length_nil]
        exact dT _ _)
      |(refine ak O c trivial ?_
        rw[ef]
        exact dT _ _)
    (repeat' (simp only[EV,seval,hn,D]))
   all_goals
    refine ap (ι:=List U) r (λi rr l=>r.foldl aD (cG u s)=rr.foldl aD l/\msr l<=1048576) (λi l=>[(1,.lst 2 (p.map Stp.cs)),(5,.lst 8 (l.map U.cs)),(8,.i ((i+1:Nat):Int))]) (λ_ _=>[]) (cG u s) ⟨rfl,by omega⟩ (Weak.of (by simp[cj,Env.get,AVle,aH,aa]) (SubN.nil _)) (by omega) (λi y rr l N O hw=>?_) (λl N hn=>?_)
    ·have d0:=O.lt
     have e1:decide (((i+1:Nat):Int)<(p.length:Int))=true:=decide_eq_true (by omega)
     have w1:IntKind.i64.wrap (((i+1:Nat):Int)+1)=((i+1+1:Nat):Int):=by rw[av (by omega) (by omega)];omega
     have bm:(p.map Stp.cs).getD (i+1) []=y.cs:=by
      have:=O.row Stp.cs [];rw[ac];simpa using this
     have bw:=eC l;(repeat' (first|simp only[EV,seval,e1,w1,bm,D]|(with_reducible intro J F;(try(have E:=F;simp only[EVK]at E;(have D:=AI E D))))|(refine⟨[],rfl,(by simp),rfl,?_⟩)|fail));refine ap (ι:=Option Nat) l (λj rl c=>True) (λj c=>[(1,.lst 2 (p.map Stp.cs)),(5,.lst 8 (l.map U.cs)),(8,.i ((i+1:Nat):Int)),(9,.own c 27 8 ((aD (l.take j) y).map U.cs)),(10,.i j)]) (λj c=>tokS c 27 ((aD (l.take j) y).length*8)) (some J) trivial (dT _ _) (by omega) (λj z rl c bx I al=>?_) (λc bx d3=>?_)
     ·have ah:aD (l.take (j+1)) y=aD (l.take j) y++z.kids.filter λk=>ay k y:=by rw[I.take,iY]
      have ad:(aD (l.take (j+1)) y).length<=1048576:=by
       have h1:=eC (aD (l.take (j+1)) y);have h2:=gk y (l.take (j+1))
       have h3:msr l=msr (l.take (j+1))+msr (l.drop (j+1)):=by rw[←gE,take_append_drop]
       omega
      have an:z.kids.length<=1048576:=by
       have h1:=eC z.kids;have h2:=im z.kids
       have h3:z.flat.length=1+(U.flats z.kids).length:=by rw[U.flat_eq,length_cons];omega
       have h4:msr l=msr (l.take (j+1))+msr (l.drop (j+1)):=by rw[←gE,take_append_drop]
       have h5:msr (l.take (j+1))=msr (l.take j)+z.flat.length:=by rw[I.take,gE,dn,kZ];omega
       omega
      rw[ah,length_append]at ad;(repeat' (simp only[EV,seval,I.yes,I.le0,I.lt',I.row,al,I.get,D]));have Y:=nc l y z.kids j
      have be:zPre l y z.kids j z.kids.length=aD (l.take (j+1)) y:=by rw[ah,nA]
      refine ap (ι:=Option Nat) z.kids (λk rk c=>True) (λk c=>[(1,.lst 2 (p.map Stp.cs)),(5,.lst 8 (l.map U.cs)),(8,.i ((i+1:Nat):Int)),(9,.own c 27 8 ((zPre l y z.kids j k).map U.cs)),(10,.i j),(11,.i k)]) (λk c=>tokS c 27 ((zPre l y z.kids j k).length*8)) c trivial (Weak.of (by simp[cj,Env.get,AVle,aH,Y]) (by simp only[Y];exact SubN.refl _)) (Nat.lt_of_le_of_lt an (by decide)) (λk q rk c ch M cm=>?_) (λc ch d2=>?_)
      ·have hA:=f264 G q y;have bk:((z.kids.take k).filter λk=>ay k y).length<=k:=Nat.le_trans (length_filter_le _ _) (by rw[length_take];omega);have d1:=M.lt;have bb:(aD (l.take j) y).length<=1048576:=Nat.le_trans (Nat.le_add_right _ _) ad;have bd:((z.kids.take k).filter λk=>ay k y).length<=1048576:=Nat.le_trans bk (Nat.le_trans (Nat.le_of_lt d1) an)
       have dd:(zPre l y z.kids j k).length<=2097152:=by
        rw[p9];exact Nat.add_le_add bb bd
       have cw:ay q y=true\/ay q y=false:=by
        cases ay q y
        ·exact .inr rfl
        ·exact .inl rfl
       rcases cw with Z|Z
       ·have ef:zPre l y z.kids j (k+1)=zPre l y z.kids j k++[q]:=pX M Z;rw[Z]at hA;clear bs aw bo ad an ah bw Y be hN bk bn hp aa bb bd;(repeat' (first|(with_reducible first|refine AI (by omega) ?_|refine ab hA ?_)|simp only[EV,seval,I.yes,I.le0,I.lt',I.row,al,I.get,M.yes,M.le0,M.lt',M.row,cm,M.get,bm,D]|(with_reducible intro J F;(try(have E:=F;simp only[EVK]at E;(have D:=E))))|(with_reducible first|refine ag ?_ ?_|refine ai ?_)|(refine⟨[q.cs],rfl,(by simp[ra]),(by simp),?_⟩)|(refine cx (by((simp only[length_map]<;>exact bp (by assumption)))) rfl rfl (by simp<;>omega) (λgn=>?_))|fail))
        all_goals
         refine ak M gn trivial ?_
         rw[ef,map_append,length_append]
         simp only[length_map,map_cons,map_nil,length_append,length_cons,length_nil]
         exact dT _ _
       ·have ef:zPre l y z.kids j (k+1)=zPre l y z.kids j k:=pT M Z;rw[Z]at hA;clear bs aw bo ad an ah bw Y be hN bk bn hp aa bb bd;(repeat' (first|(with_reducible first|refine AI (by omega) ?_|refine ab hA ?_)|simp only[EV,seval,I.yes,I.le0,I.lt',I.row,al,I.get,M.yes,M.le0,M.lt',M.row,cm,M.get,bm,D]|(with_reducible first|refine ag ?_ ?_|refine ai ?_)|fail))
        all_goals
         refine ak M c trivial ?_
         rw[ef]
         exact dT _ _
      ·(try simp only[EV,seval,I.yes,I.le0,I.lt',I.row,al,I.get,d2]);refine ak I c trivial ?_;rw[be];exact dT _ _
     ·(repeat' (simp only[EV,seval,d3,w1,D]));refine ak O (aD l y) ⟨N.1,Nat.le_trans (gk y l) N.2⟩ (Weak.of (by simp[cj,Env.get,AVle,aH,take_length]) (SubN.nil _))
    ·have e1:decide (((r.length+1:Nat):Int)<(p.length:Int))=false:=decide_eq_false (by omega)
     (repeat' (simp only[EV,seval,e1,D]));exact cp _ _ (Or.inl (Or.inl (by rw[N.1];rfl)))
end
def jV (u:U) (p:List Stp):AV:=.tup [.agg [.i (one u p).1.act,.i (one u p).1.item,.i (one u p).1.n],.i (one u p).2]
def mU (u:U) (p:List Stp):List Idd:=(eL u p).map U.id
section
variable (G:Glob)
def f89 (u:U) (p:List Stp) (ht:u.Tame) (N:u.flat.length<=1024) (hp:p.length<1000000) (Y:∀s∈p,s.label.length<1000000000000000000):Pure G Tryz.prog 89 [.agg u.cs,.lst 2 (p.map Stp.cs)] (.lst 3 ((mU u p).map Idd.cs)):=by
 have Z:=f150 G u p ht N hp Y;have hl:=kb u p;have M:u.flat.length*u.flat.length<=1048576:=Nat.mul_le_mul N N;refine Pure.w c89 λR O=>?_;unfold s89 r89;unfold mU at O;have T:(eL u p).length<=1048576:=Nat.le_trans hl M;clear hl M N;obtain⟨l,V⟩:∃l,eL u p=l:=⟨_,rfl⟩;rw[V]at O Z T;(repeat' (first|(with_reducible refine ab Z ?_)|simp only[EV,seval,F]|simp only[EV,seval]|(with_reducible intro J D;(try(have E:=D;simp only[EVK]at E;(have F:=E))))|(refine⟨[],rfl,(by simp),rfl,?_⟩)|fail));refine ap (ι:=Option Nat) l (λi r c=>True) (λi c=>[(5,.own c 23 3 ((l.take i).map λx=>x.id.cs)),(6,.lst 8 (l.map U.cs)),(7,.i i)]) (λi c=>tokS c 23 (i*3)) (some J) trivial (dT _ _) (by omega) (λi x r c X I hw=>?_) (λc X hn=>?_)
 ·have hi:=I.lt;(repeat' (first|simp only[EV,seval,I.yes,I.le0,I.lt',I.row,hw,I.get,F]|(with_reducible intro J D;(try(have E:=D;simp only[EVK]at E;(have F:=E))))|fail));refine aZ (n:=i) (m':=(i+1)*3) aS (by rw[length_map,length_take];omega) rfl rfl rfl (by assumption) (by omega) (λgn=>?_);refine ak I gn trivial ?_;simp only[I.take,map_append,map_cons,map_nil];exact dT _ _
 ·(repeat' (simp only[EV,seval,hn,F]));exact O _ _ (Or.inl (Or.inr ⟨rfl,by rw[take_length,map_map];rfl⟩))
def f32 (u:U) (p:List Stp) (V:u.Tame) (O:u.flat.length<=1024) (T:p.length<1000000) (N:∀s∈p,s.label.length<1000000000000000000):Pure G Tryz.prog 32 [.agg u.cs,.lst 2 (p.map Stp.cs)] (jV u p):=by
 have J:=f89 G u p V O T N;refine Pure.w c32 λR I=>?_;unfold s32 r32;unfold jV one at I;unfold mU at J;generalize eL u p=l at*
 rcases l with _|⟨x,_|⟨y,l⟩⟩
 ·simp only[map_nil]at J I;(repeat' (first|(with_reducible refine ab J ?_)|simp only[EV,seval,F]|simp only[EV,seval]|(with_reducible intro M D;(try(have E:=D;simp only[EVK]at E;(have F:=E))))|fail));exact I _ _ (Or.inl (Or.inl rfl))
 ·simp only[map_cons,map_nil,Idd.cs]at J I;(repeat' (first|(with_reducible refine ab J ?_)|simp only[EV,seval,F]|simp only[EV,seval]|(with_reducible intro M D;(try(have E:=D;simp only[EVK]at E;(have F:=E))))|fail))
  all_goals exact I _ _ (Or.inl (Or.inl rfl))
 ·simp only[map_cons,Idd.cs]at J I;(repeat' (first|(with_reducible (refine ae (λh=>?_) λh=>?_)<;>(try simp only[DZ]at h))|(with_reducible first|refine AI (by omega) ?_|refine ab J ?_)|simp only[EV,seval,F]|simp only[EV,seval]|(with_reducible intro M D;(try(have E:=D;simp only[EVK]at E;(have F:=E))))|(exfalso;omega)|fail))
  all_goals exact I _ _ (Or.inl (Or.inl rfl))
end
end Go.Av
