/-
  TOP, 10: days put in order without doubles: slices.Compact.
-/
import Derived.Test.YtjdccoplpljmlaaGreatDoorVXCY3toXY9
import Derived.Test.YtjdccoplpljmlaaGreatDoorVXCY2toXAv27
import Derived.Test.YtjdccoplpljmlaaGreatDoorVShelf
import Derived.Test.YtjdccoplpljmlaaGreatDoorVXL6toXL8
import Derived.Test.YtjdccoplpljmlaaGreatDoorVXL9toXL12
import Derived.Lib.Split
import Derived.Lib.SplitLaws
import Derived.Lib.AppendIntMem
import Derived.Test.YtjdccoplpljmlaaGreatDoorVXL13toXFrN
import Derived.Test.YtjdccoplpljmlaaGreatDoorVXL18toXL21
import Derived.Test.YtjdccoplpljmlaaGreatDoorVXDattoXC1
import Derived.Test.YtjdccoplpljmlaaGreatDoorVXC2
import Derived.Test.YtjdccoplpljmlaaGreatDoorVXC3toXL5
namespace Go.Av
open Go Go.RowKit Go.Proofs List
set_option linter.unusedSimpArgs false
set_option linter.unusedVariables false
section
variable (G:Glob)
set_option maxHeartbeats 8000000 in
theorem mu (zs:List Int) (hl:zs.length<1000000) (xv:AV) (κ:Store) (hW:WIn zs xv κ) (hs:zs.Pairwise (· <= ·)):
  aj G Tryz.prog 376 [xv] κ (λr σ'=>∃ys:List Int,(ys.Pairwise (· < ·)/\∀y∈ys,y∈zs)/\aO 3 1 (ys.map drow) r σ'):=by
 refine aj.w c376 ?_
 unfold s376 r376
 rcases hW with⟨rfl,rfl,rfl⟩|⟨b,cap,pad,rfl,rfl,h1,h2,h3,h4⟩
 ·(repeat' (simp only[EVz,seval,↓reduceIte,EV6,EV7]))
  all_goals exact⟨.sc (.slice none 0 0),[],Or.inl (Or.inr rfl),SubN.nil _,[],⟨List.Pairwise.nil,λy I=>by cases I⟩,aO.nil⟩
 by_cases aw:zs.length<2
 ·have e0:decide ((zs.length:Int)<2)=true:=decide_eq_true (by omega)
  have bb:zs.Pairwise (· < ·):=by
   rcases zs with _|⟨a,_|⟨c,r⟩⟩
   ·exact List.Pairwise.nil
   ·exact pairwise_singleton _ _
   ·simp only[length_cons]at aw;omega
  (repeat' (simp only[EVz,seval,↓reduceIte,EV6,EV7,e0]))
  all_goals exact retI ⟨zs,⟨bb,λy I=>I⟩,aO.mk (by rw[length_map]) (by rw[length_map];exact h1) h2 (dM _) h3⟩
 have e0:decide ((zs.length:Int)<2)=false:=decide_eq_false (by omega)
 (repeat' (simp only[EVz,seval,↓reduceIte,EV6,EV7,e0]))
 refine bv (ι:=Nat) (λk=>1<=k/\k<=zs.length/\(zs.take k).Pairwise (· < ·)) (λk=>zs.length-k) (λk=>[(0,rawS b zs.length cap),(3,.int .i64 k)]) (λ_=>[(b,.cells 3 ((zs.map drow).flatten++pad))]) 1 ⟨Nat.le_refl _,by omega,by rcases zs with _|⟨a,r⟩;exact List.Pairwise.nil;exact pairwise_singleton _ _⟩ (Weak.rfl' _ _) ?_
 rintro k ⟨X,hk,M⟩
 by_cases ac:k<zs.length
 ·have e1:decide ((k:Int)<(zs.length:Int))=true:=decide_eq_true (by omega)
  have w1:=kC (x:=k) X (by omega)
  have w2:IntKind.i64.wrap ((k:Int)+1)=((k+1:Nat):Int):=by rw[av (by omega) (by omega)];omega
  obtain⟨a1,a2,a3,a4⟩:=icell (cur:=zs) (pad:=pad) (i:=k) (o:=0+k*1) (by omega) ac
  obtain⟨b1,b2,b3,b4⟩:=icell (cur:=zs) (pad:=pad) (i:=k-1) (o:=0+(k-1)*1) (by omega) (by omega)
  have bo:((k-1:Nat):Int)<(zs.length:Int):=by omega
  by_cases J:zs.getD k 0=zs.getD (k-1) 0
  ·have e2:decide (zs.getD k 0=zs.getD (k-1) 0)=true:=decide_eq_true J
   have bn:(k:Int)<(cap:Int):=by omega
   have n1:zs.length-k=zs.length-k:=rfl
   (repeat' (first|(with_reducible refine AI (by omega) ?_)|simp only[EVz,seval,↓reduceIte,EV6,EV7,e1,e2,w1,a1,b1,Int.toNat_natCast]))
   refine bv (ι:=Nat×Nat×List Int×List Int) (λp=>p.2.2.1.length=p.1/\1<=p.2.1/\k+p.2.1<=zs.length/\1<=p.1/\p.1+1<=k+p.2.1/\p.2.2.1.Pairwise (· < ·)/\(∀y∈p.2.2.1,y∈zs)/\p.2.2.1.getD (p.1-1) 0=zs.getD (k+p.2.1-1) 0/\p.2.2.1++zs.drop p.1=p.2.2.2) (λp=>zs.length-p.2.1)
    (λp=>[(0,rawS b zs.length cap),(3,.int .i64 p.1),(4,.sc (.slice (some ⟨b,0+k*1,none⟩) (zs.length-k) (cap-k))),(5,.int .i64 p.2.1)]) (λp=>[(b,.cells 3 ((p.2.2.2.map drow).flatten++pad))]) (k,1,zs.take k,zs)
    ⟨by simp only[length_take];omega,Nat.le_refl _,by simp only;omega,X,by simp only;omega,M,λy I=>mem_of_mem_take I,?_,take_append_drop k zs⟩ (Weak.rfl' _ _) ?_
   ·simp only
    rw[show k+1-1=k by omega,J]
    simp[getD_eq_getElem?_getD,getElem?_take,show k-1<k by omega]
   rintro⟨m,j,pre,cur⟩ ⟨c1,c2,c3,c4,c5,c6,c7,c8,E⟩
   simp only at c1 c2 c3 c4 c5 c6 c7 c8 E ⊢
   have al:cur.length=zs.length:=by rw[←E,length_append,length_drop];omega
   have Z:∀i,m<=i->cur.getD i 0=zs.getD i 0:=λi hi=>by
    rw[←E,getD_eq_getElem?_getD,getD_eq_getElem?_getD,getElem?_append_right (by omega),getElem?_drop,show m+(i-pre.length)=i by omega]
   by_cases bm:j<zs.length-k
   ·have e3:decide ((j:Int)<((zs.length-k:Nat):Int))=true:=decide_eq_true (by omega)
    have v1:=kC (x:=j) c2 (by omega)
    have v2:IntKind.i64.wrap ((j:Int)+1)=((j+1:Nat):Int):=by rw[av (by omega) (by omega)];omega
    have v3:IntKind.i64.wrap ((m:Int)+1)=((m+1:Nat):Int):=by rw[av (by omega) (by omega)];omega
    obtain⟨d1,d2,d3,d4⟩:=icell (cur:=cur) (pad:=pad) (i:=k+j) (o:=0+k*1+j*1) (by omega) (by omega)
    obtain⟨f1,f2,f3,f4⟩:=icell (cur:=cur) (pad:=pad) (i:=k+(j-1)) (o:=0+k*1+(j-1)*1) (by omega) (by omega)
    obtain⟨g1,g2,g3,g4⟩:=icell (cur:=cur) (pad:=pad) (i:=m) (o:=0+m*1) (by omega) (by omega)
    rw[Z (k+j) (by omega)]at d1
    rw[Z (k+(j-1)) (by omega)]at f1
    have be:((j-1:Nat):Int)<((zs.length-k:Nat):Int):=by omega
    have bh:(j:Int)<((zs.length-k:Nat):Int):=by omega
    have bw:(m:Int)<(zs.length:Int):=by omega
    have T:=g4 (zs.getD (k+j) 0)
    by_cases N:zs.getD (k+j) 0=zs.getD (k+(j-1)) 0
    ·have e4:decide (zs.getD (k+j) 0≠zs.getD (k+(j-1)) 0)=false:=decide_eq_false (λh=>h N)
     (repeat' (first|(with_reducible refine AI (by omega) ?_)|simp only[EVz,seval,↓reduceIte,EV6,EV7,e3,e4,v1,v2,d1,f1,Int.toNat_natCast]))
     all_goals exact⟨(m,j+1,pre,cur),⟨c1,by simp only;omega,by simp only;omega,c4,by simp only;omega,c6,c7,by simp only;rw[show k+(j+1)-1=k+j by omega,N,c8];congr 1;omega,E⟩,by simp only;omega,Weak.rfl' _ _⟩
    ·have e4:decide (zs.getD (k+j) 0≠zs.getD (k+(j-1)) 0)=true:=decide_eq_true N
     have ag:cur.set m (zs.getD (k+j) 0)=(pre++[zs.getD (k+j) 0])++zs.drop (m+1):=by
      rw[←E,set_append_right _ _ (by omega),c1,Nat.sub_self,drop_eq_getElem_cons (by omega),set_cons_zero,append_assoc];rfl
     rw[ag]at T
     have ad:pre.getD (pre.length-1) 0<zs.getD (k+j) 0:=by
      rw[c1,c8]
      have:=g7 hs (show k+j-1<k+j by omega) (by omega)
      rw[show k+(j-1)=k+j-1 by omega]at N
      omega
     (repeat' (first|(with_reducible refine AI (by omega) ?_)|simp only[EVz,seval,↓reduceIte,EV6,EV7,e3,e4,v1,v2,v3,d1,f1,T,Int.toNat_natCast]))
     all_goals(exact⟨(m+1,j+1,pre++[zs.getD (k+j) 0],(pre++[zs.getD (k+j) 0])++zs.drop (m+1)),⟨by simp[c1],by simp only;omega,by simp only;omega,by simp only;omega,by simp only;omega,snoc_lt c6 (by omega) ad,(λy I=>by
       rcases mem_append.1 I with I|I
       ·exact c7 y I
       ·simp only[mem_singleton]at I;subst I
        rw[getD_eq_getElem?_getD,getElem?_eq_getElem (by omega)];exact getElem_mem _),by simp only;rw[show k+(j+1)-1=k+j by omega,show m+1-1=pre.length by omega];simp[getD_eq_getElem?_getD],rfl⟩,by simp only;omega,Weak.rfl' _ _⟩)
   ·have e3:decide ((j:Int)<((zs.length-k:Nat):Int))=false:=decide_eq_false (by omega)
    have bp:(m:Int)<(cap:Int):=by omega
    have bk:(0:Int)<(cap:Int):=by omega
    (repeat' (first|(with_reducible refine AI (by omega) ?_)|simp only[EVz,seval,↓reduceIte,EV6,EV7,e3,Int.toNat_natCast]))
    have F:((cur.map drow).flatten++pad).length=cap*1:=by rw[←h3,length_append,length_append,ap _ (dM _),ap _ (dM _),length_map,length_map,al]
    have ah:(List.replicate (zs.length-m) [AV.int .i64 0]).flatten.length=zs.length-m:=by rw[length_flatten];simp
    have O:0+m*1+(List.replicate (zs.length-m) [AV.int .i64 0]).flatten.length<=((cur.map drow).flatten++pad).length:=by rw[ah,F];omega
    have bd:((cur.map drow).flatten++pad).take (0+m*1)=(pre.map drow).flatten:=by
     rw[←E,map_append,flatten_append,append_assoc,take_append_of_le_length (by rw[ap _ (dM _),length_map];omega),take_of_length_le (by rw[ap _ (dM _),length_map];omega)]
    have Y:=aR _ _ _ O
    have V:=gO O
    rw[bd]at Y
    rw[Y]at V
    refine jS (cs:=(cur.map drow).flatten++pad) (e:=3) (elem:=3) (sz:=1) (z:=[.int .i64 0]) (by kernel_rfl) (by kernel_rfl) rfl (by decide) rfl (by simp[Store.get]) (by rw[F];omega) (λh0=>by omega) (λ_=>?_)
    (repeat' (first|(with_reducible refine AI (by omega) ?_)|simp only[EVz,seval,↓reduceIte,EV6,EV7,Y,Int.toNat_natCast]))
    all_goals exact retI ⟨pre,⟨c6,c7⟩,by rw[Nat.sub_zero,Nat.sub_zero,append_assoc];exact aO.mk (by rw[length_map];exact c1.symm) (by rw[length_map];omega) h2 (dM _) (by rw[←append_assoc,V,F])⟩
  ·have e2:decide (zs.getD k 0=zs.getD (k-1) 0)=false:=decide_eq_false J
   (repeat' (first|(with_reducible refine AI (by omega) ?_)|simp only[EVz,seval,↓reduceIte,EV6,EV7,e1,e2,w1,w2,a1,b1,Int.toNat_natCast]))
   all_goals exact⟨k+1,⟨by omega,by omega,take_step hs X ac M J⟩,by omega,Weak.rfl' _ _⟩
 ·have e1:decide ((k:Int)<(zs.length:Int))=false:=decide_eq_false (by omega)
  have an:k=zs.length:=by omega
  subst an
  rw[take_length]at M
  (repeat' (simp only[EVz,seval,↓reduceIte,EV6,EV7,e1]))
  all_goals exact retI ⟨zs,⟨M,λy I=>I⟩,aO.mk (by rw[length_map]) (by rw[length_map];exact h1) h2 (dM _) h3⟩
end
theorem openE {e:TypeId} {sz:Nat} {v:Value} (h:iS v):aO e sz [] (.sc v) []:=by
 rcases h with rfl|⟨a,rfl⟩
 ·exact⟨none,0,rfl,.inl ⟨rfl,rfl,rfl⟩⟩
 ·exact⟨some a,0,rfl,.inl ⟨rfl,rfl,rfl⟩⟩
section
variable (G:Glob)
theorem f374 (rows:List (List AV)) (T:∀r∈rows,r.length=2) (Y:rows.length<1000000):aj G Tryz.prog 374 [.lst 2 rows] [] (λr σ=>aO 255 2 rows r σ):=by
 refine aj.w c374w ?_
 unfold s374w r374w
 simp only[EV1,EV2,EV3,EV4,EV5,Option.map_some,decide_true,decide_false,seval,↓reduceIte,eq_self]
 intro V I
 refine ab (λh=>?_) (λh=>?_)
 ·simp only[EV1,EV2,EV3,EV4,EV5,Option.map_some,decide_true,decide_false,seval,↓reduceIte,eq_self]
  have F:rows=[]:=by
   rcases Classical.em (rows=[])with E|E
   ·exact E
   ·rw[I E]at h;cases h
  subst F
  exact⟨.sc (.slice none 0 0),[],Or.inl (Or.inr rfl),SubN.refl _,openE (.inl rfl)⟩
 ·simp only[EV1,EV2,EV3,EV4,EV5,Option.map_some,decide_true,decide_false,seval,↓reduceIte,eq_self]
  refine ez (e:=255) (n:=2) (by kernel_rfl) (by kernel_rfl) (λv J=>?_)
  simp only[EV1,EV2,EV3,EV4,EV5,Option.map_some,decide_true,decide_false,seval,↓reduceIte,eq_self]
  refine aY (e:=255) (e':=255) (sz:=2) (bytes:=16) (rows:=[]) (ys:=rows) (g:=none) (xv:=.sc v) (by kernel_rfl) (by kernel_rfl) (by kernel_rfl) (by kernel_rfl) (by decide) (by decide) rfl (.inl ⟨rfl,rfl,.inr ⟨v,rfl,J⟩⟩) ?_ ?_ ?_ ?_
  ·exact⟨rfl,rfl⟩
  ·simp;omega
  ·intro _ F
   subst F
   simp only[EV1,EV2,EV3,EV4,EV5,Option.map_some,decide_true,decide_false,seval,↓reduceIte,eq_self]
   exact retI (openE J)
  ·intro b cap pad X E M N O
   simp only[EV1,EV2,EV3,EV4,EV5,Option.map_some,decide_true,decide_false,seval,↓reduceIte,eq_self]
   simp only[nil_append]at*
   exact retI (aO.mk rfl E M N O)
end
def fL (G:Glob) (D:List Int):Prop:=∀(a b:List (Int×Int)) (f:Value) (g:Bool->Bool->Bool),a.length<10000->b.length<10000->Ends D a->Ends D b->(∀x y,dV G Tryz.prog f [.bool x,.bool y] (.bool (g x y)))->
 aj G Tryz.prog 355 [.lst 2 (a.map spc),.lst 2 (b.map spc),.sc f] [] (λr σ'=>σ'=[]/\Spn D D.length r)
theorem fJ {G:Glob} {P:Program} {k:FuncId} {args E:List AV} {σ:Store} {K:AV->Store->Prop} {t:Tag K} {Q:AV->Prop}
  (h:aj G P k E [] (λr σ'=>σ'=[]/\Q r)) (F:aA args E) (I:∀r,Q r->K r σ):CALL G P (.func (.func k) #[] #[]) args σ K t:=
 aP [] σ h.v F (SubN.refl _) (by rintro r _ ⟨rfl,J⟩;exact I r J)
section
variable (G:Glob)
theorem f309 (D:List Int) (F:fL G D) (a b:List (Int×Int)) (J:a.length<10000) (M:b.length<10000) (E:Ends D a) (I:Ends D b):
  aj G Tryz.prog 309 [.lst 2 (a.map spc),.lst 2 (b.map spc)] [] (λr σ'=>σ'=[]/\Spn D D.length r):=by
 have h:=F a b (.func (.func 356) #[] #[]) (λx y=>x||y) J M E I (λx y=>(f356 G x y).v)
 refine aj.w c309 ?_
 unfold s309 r309
 (try simp only[EVz,seval,↓reduceIte,EV6,EV7])
 refine bf h ?_
 rintro r N
 (try simp only[EVz,seval,↓reduceIte,EV6,EV7])
 exact retI ⟨rfl,N⟩
theorem f312 (D:List Int) (F:fL G D) (a b:List (Int×Int)) (J:a.length<10000) (M:b.length<10000) (E:Ends D a) (I:Ends D b):
  aj G Tryz.prog 312 [.lst 2 (a.map spc),.lst 2 (b.map spc)] [] (λr σ'=>σ'=[]/\Spn D D.length r):=by
 have h:=F a b (.func (.func 357) #[] #[]) (λx y=>x&&y) J M E I (λx y=>(f357 G x y).v)
 refine aj.w c312 ?_
 unfold s312 r312
 (try simp only[EVz,seval,↓reduceIte,EV6,EV7])
 refine bf h ?_
 rintro r N
 (try simp only[EVz,seval,↓reduceIte,EV6,EV7])
 exact retI ⟨rfl,N⟩
theorem f267 (D:List Int) (T:fL G D) (N:(0:Int)∈D) (a:List (Int×Int)) (V:a.length<10000) (O:Ends D a) (d:Int) (X:d∈D):
  aj G Tryz.prog 267 [.lst 2 (a.map spc),.int .i64 d] [] (λr σ'=>σ'=[]/\Spn D D.length r):=by
 have h:=f312 G D T a [(0,d)] V (by simp) O (λp J=>by simp only[mem_singleton]at J;subst J;exact⟨N,X⟩)
 refine aj.w c267 ?_
 unfold s267 r267
 (repeat' (first|(with_reducible (first|refine ab (λh=>?_) (λh=>?_)|refine ai (λh=>?_) (λh=>?_)|refine ak (λh=>?_) (λh=>?_))<;>(try simp only[DZ]at h))|(with_reducible refine AI (by omega) ?_)|simp only[EVz,seval,↓reduceIte,EV6,EV7]|(with_reducible intro M F;(try(have E:=F;simp only[EVK]at E;first|(have I:=AI E I)|(have I:=E))))|(with_reducible first|refine ae ?_ ?_|refine af ?_)|(refine⟨[[.int .i64 0,.int .i64 d]],rfl,(by simp),(by simp),?_⟩)|(exfalso;omega)))
 refine fJ h ⟨AVle.rfl' _,.inl (.inr ⟨rfl,rfl⟩),trivial⟩ ?_
 rintro r Y
 (try simp only[EVz,seval,↓reduceIte,EV6,EV7])
 exact⟨r,[],AVle.rfl' _,SubN.nil _,rfl,Y⟩
theorem f265 (D:List Int) (J:fL G D) (T:(0:Int)∈D) (Z:(1048577:Int)∈D) (Y:D.length<10000) (a:List (Int×Int)) (ha:a.length<10000) (X:Ends D a) (d:Int) (M:d∈D):
  aj G Tryz.prog 265 [.lst 2 (a.map spc),.int .i64 d] [] (λr σ'=>σ'=[]/\Spn D D.length r):=by
 have h:=f267 G D J T a ha X d M
 refine aj.w c265 ?_
 unfold s265 r265
 (try simp only[EVz,seval,↓reduceIte,EV6,EV7])
 refine bf h ?_
 rintro _ ⟨ps,⟨V,h2⟩,rfl⟩
 have hU:=f309 G D J ps [(d,1048577)] (by omega) (by simp) V (λp N=>by simp only[mem_singleton]at N;subst N;exact⟨M,Z⟩)
 (repeat' (first|(with_reducible (first|refine ab (λh=>?_) (λh=>?_)|refine ai (λh=>?_) (λh=>?_)|refine ak (λh=>?_) (λh=>?_))<;>(try simp only[DZ]at h))|(with_reducible refine AI (by omega) ?_)|simp only[EVz,seval,↓reduceIte,EV6,EV7]|(with_reducible intro O F;(try(have E:=F;simp only[EVK]at E;first|(have I:=AI E I)|(have I:=E))))|(with_reducible first|refine ae ?_ ?_|refine af ?_)|(refine⟨[[.int .i64 d,.int .i64 1048577]],rfl,(by simp),(by simp),?_⟩)|(exfalso;omega)))
 refine fJ hU ⟨AVle.rfl' _,.inl (.inr ⟨rfl,rfl⟩),trivial⟩ ?_
 rintro r hr
 (try simp only[EVz,seval,↓reduceIte,EV6,EV7])
 exact⟨r,[],AVle.rfl' _,SubN.nil _,rfl,hr⟩
end
end Go.Av
namespace Go.Av
open Go Go.RowKit Go.MapKept List
set_option linter.unusedSimpArgs false
set_option linter.unusedVariables false
section
variable {G:Glob} {P:Program} {env:Env} {σ:Store} {K:AV->Store->Prop} {κ:Type} [DecidableEq κ] {kT:TypeId} {val:κ->Value}
theorem nh (k:Int):∀(l:List Int) (ents:List MapEntry) (i:Nat),ents.map (·.key)=l.map (λn=>Value.int .i64 n)->
  Instr.findNow (.int .i64) (.int .i64 k) ents i=some ((((l.zip ents).zipIdx i).find? λq=>decide (q.1.1=k)).map λq=>(q.2,q.1.2.val))
 |[],[],i,_=>by simp[Instr.findNow]
 |[],e::es,i,h=>by simp at h
 |b::l,[],i,h=>by simp at h
 |b::l,e::es,i,h=>by
  simp only[map_cons,List.cons.injEq]at h
  simp only[Instr.findNow,h.1,Instr.sameNow,if_true,zip_cons_cons,zipIdx_cons,find?_cons]
  by_cases E:k=b
  ·subst E;simp
  ·have F:(k==b)=false:=by simpa using E
   have I:decide (b=k)=false:=by simp;exact λe=>E e.symm
   simp only[F,I]
   exact nh k l es (i+1) h.2
theorem nE (E:P.underlying kT=some (.int .i64)):MapK P kT (λn:Int=>Value.int .i64 n) where
 ck em k w:=run_checkKey E (by simp[IsKey]) em 9999
 find k l ents w he:=run_findKey E (nh k l ents 0 he)
 stays k w:=run_keyThatStays (d:=.int .i64) (by simp[IsKey])
theorem dq (M:MapK P kT val) {F eT:TypeId} {x E y:Operand} {b:Nat} {l:List (κ×AV)} {k:κ} {yv:AV} (Y:(SOpd.of x).eval G env= .sc (.map (some b)))
  (I:∀τ w v,Rep τ w ((SOpd.of E).eval G env) v->v=val k) (Z:(SOpd.of y).eval G env=yv) (X:P.underlying F=some (.map kT eT)) (O:σ.get b=some (.map (bB val l)))
  (T:K aE (σ.set b (.map (bB val (bu k yv l))))):RAW G P (.insert F x E y) env σ K ⟨⟩:=by
 intro ρ w a o V N J
 have h:=cr (K:=K) M Y I Z X O T ρ w a {o with op:=.mapUpdate F x E y} rfl N J
 have e:execOp a.eval {o with op:=.mapUpdate F x E y}=execOp a.eval o:=by simp[execOp,V]
 rwa [e]at h
end
end Go.Av
namespace Go.Av
open Go Go.RowKit Go.Proofs List
set_option linter.unusedSimpArgs false
set_option linter.unusedVariables false
abbrev keyI (n:Int):Value:=.int .i64 n
theorem eJ:MapK Tryz.prog 3 keyI:=nE (by kernel_rfl)
theorem rep_t {G:Glob} {env:Env} (n:Int):∀τ w v,Rep τ w ((SOpd.of (.const (.int .i64 n))).eval G env) v->v=keyI n:=λτ w v h=>by simpa[SOpd.of,SOpd.eval,AV.ofValue,AV.ofOne,Rep]using h
theorem sget_t {b:Nat} {x:AObj} {σ:Store}:Store.get ((b,x)::σ) b=some x:=by simp[Store.get]
def cL:List (Int×AV):=bu 8 (.sc (.func (.func 267) #[] #[])) (bu 9 (.sc (.func (.func 265) #[] #[])) (bu 7 (.sc (.func (.func 265) #[] #[])) []))
section
variable (G:Glob)
theorem f224:aj G Tryz.prog 224 [] [] (λr σ=>∃b,r= .sc (.map (some b))/\σ=[(b,.map (bB keyI cL))]):=by
 refine aj.w c224 ?_
 unfold s224 r224
 (try simp only[EVz,seval,↓reduceIte,EV6,EV7])
 refine cc ?_
 intro b E
 (try simp only[EVz,seval,↓reduceIte,EV6,EV7])
 refine dq eJ (l:=[]) (k:=7) (eT:=247) rfl (rep_t 7) rfl (by kernel_rfl) sget_t ?_
 (repeat' (first|simp only[EVz,seval,↓reduceIte,EV6,EV7]|(refine dq eJ (eT:=247) rfl (rep_t _) rfl (by kernel_rfl) sget_t ?_)))
 exact⟨_,_,AVle.rfl' _,SubN.refl _,b,rfl,rfl⟩
end
section
variable (G:Glob)
end
section
variable (G:Glob)
end
section
variable (G:Glob)
end
structure Ac where
 number:Int
 title:List UInt8
 day:Int
 start:Sta
 items:List Itm
def Ac.cs (a:Ac):List AV:=[.int .i64 a.number,.str a.title,.int .i64 a.day,.int .i64 a.start.kind,.int .i64 a.start.day,.str a.start.event,.lst 25 (a.items.map Itm.cs)]
section
variable (G:Glob)
end
theorem iC (l:List Wd):∀r∈l.map Wd.cs,r.length=4:=by
 intro r E
 obtain⟨w,_,rfl⟩:=mem_map.1 E
 rfl
theorem iA (l:List U):∀r∈l.map U.cs,r.length=8:=by
 intro r E
 obtain⟨w,_,rfl⟩:=mem_map.1 E
 exact U.cs_len w
theorem dZ {e:TypeId} {sz:Nat} {v:Value} (h:iS v):aO e sz [] (.sc v) []:=by
 rcases h with rfl|⟨a,rfl⟩
 ·exact⟨none,0,rfl,.inl ⟨rfl,rfl,rfl⟩⟩
 ·exact⟨some a,0,rfl,.inl ⟨rfl,rfl,rfl⟩⟩
theorem RET.le {x y:AV} {R:AV->Store->Prop} {σ σ':Store} (E:AVle x y) (F:SubN σ' σ) (h:R y σ'):RET x σ R:=⟨y,σ',E,F,h⟩
theorem RET.mk' {x:AV} {R:AV->Store->Prop} {σ σ':Store} (E:SubN σ' σ) (h:R x σ'):RET x σ R:=⟨x,σ',AVle.rfl' _,E,h⟩
section
variable (G:Glob)
theorem f202 (l:List Wd) (hl:l.length<1000000):aj G Tryz.prog 202 [.lst 4 (l.map Wd.cs)] [] (λr σ=>aO 88 4 (l.map Wd.cs) r σ):=by
 obtain⟨rows,E⟩:∃rows,l.map Wd.cs=rows:=⟨_,rfl⟩
 have T:rows.length=l.length:=by rw[←E,length_map]
 have X:∀r∈rows,r.length=4:=by rw[←E];exact iC l
 rw[E]
 refine aj.w c202 ?_
 unfold s202 r202
 simp only[EV1,EV2,EV3,EV4,EV5,Option.map_some,decide_true,decide_false,seval,↓reduceIte,eq_self]
 intro Y I
 refine ab (λh=>?_) (λh=>?_)
 ·simp only[EV1,EV2,EV3,EV4,EV5,Option.map_some,decide_true,decide_false,seval,↓reduceIte,eq_self]
  have F:rows=[]:=by
   rcases Classical.em (rows=[])with h1|h1
   ·exact h1
   ·rw[I h1]at h;cases h
  subst F
  exact RET.le (y:=.sc (.slice none 0 0)) (Or.inl (Or.inr rfl)) (SubN.refl _) (dZ (.inl rfl))
 ·simp only[EV1,EV2,EV3,EV4,EV5,Option.map_some,decide_true,decide_false,seval,↓reduceIte,eq_self]
  refine ez (e:=88) (n:=4) (by kernel_rfl) (by kernel_rfl) (λv V=>?_)
  simp only[EV1,EV2,EV3,EV4,EV5,Option.map_some,decide_true,decide_false,seval,↓reduceIte,eq_self]
  refine aY (e:=88) (e':=88) (sz:=4) (bytes:=40) (rows:=[]) (ys:=rows) (g:=none) (xv:=.sc v) (by kernel_rfl) (by kernel_rfl) (by kernel_rfl) (by kernel_rfl) (by decide) (by decide) rfl (.inl ⟨rfl,rfl,.inr ⟨v,rfl,V⟩⟩) ?_ ?_ ?_ ?_
  ·exact⟨rfl,rfl⟩
  ·simp;omega
  ·intro _ F
   simp only[EV1,EV2,EV3,EV4,EV5,Option.map_some,decide_true,decide_false,seval,↓reduceIte,eq_self]
   subst F
   exact RET.mk' (SubN.refl _) (dZ V)
  ·intro b cap pad Z M J O N
   simp only[EV1,EV2,EV3,EV4,EV5,Option.map_some,decide_true,decide_false,seval,↓reduceIte,eq_self]
   simp only[nil_append]at*
   exact RET.mk' (SubN.refl _) ⟨_,_,rfl,.inr ⟨b,pad,rfl,rfl,M,J,O,N⟩⟩
end
theorem ce {σ τ:Store} (h:(σ++τ:Store).keys.Nodup) {b:Nat} (E:b∈τ.keys):b∉σ.keys:=by
 rw[aB]at h
 exact λF=>(nodup_append.1 h).2.2 b F b E rfl
theorem jC {σ τ:Store} (h:(σ++τ:Store).keys.Nodup):τ.keys.Nodup:=by
 rw[aB]at h
 exact(nodup_append.1 h).2.1
def kD (u:U) (r:AV) (σ:Store):Prop:=
 ∃J O E N T I M ck F,r= .agg [.int .i64 u.id.act,.int .i64 u.id.item,.int .i64 u.id.n,.int .i64 u.kind,.str u.label,.sc (.slice J u.head.length O),.sc (.slice N u.words.length T),.sc (.slice M u.kids.length ck)]/\
  σ=F++(I++E)/\fw 88 4 (u.head.map Wd.cs) J O E/\fw 88 4 (u.words.map Wd.cs) N T I/\fw 29 8 (u.kids.map U.cs) M ck F
theorem kD.freeze {G:Glob} {P:Program} {k:FuncId} {args:List AV} {u:U} (h:aj G P k args [] (kD u)):Pure G P k args (.agg u.cs):=by
 refine aj.freeze (aj.mono h ?_)
 rintro r σ' ⟨J,O,E,N,T,I,M,ck,F,rfl,rfl,V,X,Y⟩
 refine⟨_,rfl,?_⟩
 rw[U.cs_eq]
 refine⟨.inl rfl,.inl rfl,.inl rfl,.inl rfl,.inl rfl,.inr ⟨_,_,_,E,⟨J,O,by simp,V⟩,?_,rfl⟩,.inr ⟨_,_,_,I,⟨N,T,by simp,X⟩,?_,rfl⟩,.inr ⟨_,_,_,F,⟨M,ck,by simp,Y⟩,?_,rfl⟩,trivial⟩<;>
 ·intro p Z
  simp only[mem_append]
  simp[Z]
abbrev KS:=Option (Nat×Nat×List AV)
def kAV (c:KS) (n:Nat):AV:=match c with
 |none=>.nil
 |some (b,cap,_)=>.sc (.slice (some ⟨b,0,none⟩) n cap)
def kSt (c:KS) (rows:List (List AV)):Store:=match c with
 |none=>[]
 |some (b,_,pad)=>[(b,.cells 29 (rows.flatten++pad))]
def kOk (c:KS) (rows:List (List AV)):Prop:=match c with
 |none=>rows=[]
 |some (b,cap,pad)=>rows.length<=cap/\cap<=maxLen/\(∀r∈rows,r.length=8)/\(rows.flatten++pad).length=cap*8
theorem kWS {c:KS} {rows:List (List AV)} (h:kOk c rows):WS (kSt c rows) 29 8 (kAV c rows.length) rows (c.map (·.1)):=by
 cases c with
 |none=>exact .inl ⟨h,rfl,.inl rfl⟩
 |some p=>
  obtain⟨b,cap,pad⟩:=p
  obtain⟨E,F,I,J⟩:=h
  exact .inr ⟨b,cap,pad,rfl,rfl,by simp[kSt,Store.get],I,J,E,F⟩
theorem kErase (c:KS) (rows:List (List AV)):(kSt c rows).erase (c.map (·.1))=[]:=by
 cases c with
 |none=>rfl
 |some p=>obtain⟨b,cap,pad⟩:=p;simp[kSt,Store.erase]
theorem kS {c:KS} {rows:List (List AV)} (h:kOk c rows):∃E cap,aU (kAV c rows.length) (.sc (.slice E rows.length cap))/\fw 29 8 rows E cap (kSt c rows):=by
 cases c with
 |none=>
  have h:rows=[]:=h
  subst h
  exact⟨none,0,.inr rfl,.inl ⟨rfl,rfl,rfl⟩⟩
 |some p=>
  obtain⟨b,cap,pad⟩:=p
  obtain⟨F,I,J,M⟩:=h
  exact⟨some ⟨b,0,none⟩,cap,.inl rfl,.inr ⟨b,pad,rfl,rfl,F,I,J,M⟩⟩
section
variable (G:Glob)
set_option maxHeartbeats 2000000 in
theorem f145:∀(u:U),u.Short->aj G Tryz.prog 145 [.agg u.cs] [] (kD u):=by
 refine U.ind λu ih hs=>?_
 have h0:=hs.2 u u.flat_self
 have dl:=hs.1.kids
 have bx:=f202 G u.head h0.2.1
 have cl:=f202 G u.words h0.2.2.1
 rw[U.cs_eq u]
 refine aj.w c145 ?_
 unfold s145 r145
 (try simp only[EVz,seval,↓reduceIte,EV6,EV7])
 intro Y d4 Z be
 have I:¬Y=Z:=by simp only[EVK]at be;exact λe=>be e.symm
 have N:¬Z=Y:=λe=>I e.symm
 (repeat' (first|simp only[EVz,seval,↓reduceIte,EV6,EV7,I,N]|(with_reducible refine ae ?_ ?_)))
 all_goals(
  refine ay [] _ bx.v (aA.rfl' _) (SubN.refl _) ?_
  rintro _ T ⟨bh,ch,rfl,cm⟩ al
  have E:Y∉T.keys:=ce al (by simp[Store.keys])
  have F:Z∉T.keys:=ce al (by simp[Store.keys])
  (try simp only[EVz,seval,↓reduceIte,EV6,EV7,ao E,ao F,au E,au F,I,N])
  refine ay [] _ cl.v (aA.rfl' _) (SubN.refl _) ?_
  rintro _ V ⟨bw,cw,rfl,cp⟩ X
  have J:Y∉V.keys:=ce X (by simp[Store.keys])
  have M:Z∉V.keys:=ce X (by simp[Store.keys])
  (try simp only[EVz,seval,↓reduceIte,EV6,EV7,ao E,ao F,au E,au F,ao J,ao M,au J,au M,I,N,append_eq]))
 all_goals(
  refine af ?_
  (try simp only[EVz,seval,↓reduceIte,EV6,EV7,ao E,ao F,au E,au F,ao J,ao M,au J,au M,I,N,append_eq])
  have bn:Store.keys (V++(T++[(Z,AObj.cells 29 [.int .i64 0,.int .i64 0,.int .i64 0,.int .i64 0,.str [],.nil,.nil,.nil]),(Y,AObj.cells 29 [.int .i64 u.id.act,.int .i64 u.id.item,.int .i64 u.id.n,.int .i64 u.kind,.str u.label,.sc (.slice bh u.head.length ch),.sc (.slice bw u.words.length cw),.lst 8 (u.kids.map U.cs)])]))|>.Nodup:=by
   simp only[append_eq]at X
   simpa[Store.keys]using X
  refine ax (ι:=KS) u.kids (λi r c=>kOk c ((u.kids.take i).map U.cs)/\(Store.keys (kSt c ((u.kids.take i).map U.cs)++(V++(T++[(Z,AObj.cells 29 [.int .i64 0,.int .i64 0,.int .i64 0,.int .i64 0,.str [],.nil,.nil,.nil]),(Y,AObj.cells 29 [.int .i64 u.id.act,.int .i64 u.id.item,.int .i64 u.id.n,.int .i64 u.kind,.str u.label,.sc (.slice bh u.head.length ch),.sc (.slice bw u.words.length cw),.lst 8 (u.kids.map U.cs)])])))).Nodup)
   (λi c=>[(1,.sc (.pointer (some ⟨Y,0,none⟩))),(2,.sc (.pointer (some ⟨Z,0,none⟩))),(3,kAV c i),(15,.lst 8 (u.kids.map U.cs)),(16,.int .i64 u.kids.length),(17,.int .i64 i)])
   (λi c=>kSt c ((u.kids.take i).map U.cs)++(V++(T++[(Z,AObj.cells 29 [.int .i64 0,.int .i64 0,.int .i64 0,.int .i64 0,.str [],.nil,.nil,.nil]),(Y,AObj.cells 29 [.int .i64 u.id.act,.int .i64 u.id.item,.int .i64 u.id.n,.int .i64 u.kind,.str u.label,.sc (.slice bh u.head.length ch),.sc (.slice bw u.words.length cw),.lst 8 (u.kids.map U.cs)])]))) none ⟨rfl,bn⟩ (Weak.rfl' _ _) (by omega) (λi x r c ad O hw=>?_) (λc ad hn=>?_)
  ·have an:((u.kids.take i).map U.cs).length=i:=by rw[length_map,length_take];have:=O.lt;omega
   have bp:=kWS ad.1
   rw[an]at bp
   (try simp only[EVz,seval,↓reduceIte,EV6,EV7,O.yes,O.le0,O.lt',O.row,hw,O.get,ao E,ao F,au E,au F,ao J,ao M,au J,au M,I,N,append_eq])
   intro b5 dc
   (try simp only[EVz,seval,↓reduceIte,EV6,EV7,O.yes,O.le0,O.lt',O.row,hw,O.get,ao E,ao F,au E,au F,ao J,ao M,au J,au M,I,N,append_eq])
   refine aa (kD.freeze (ih x O.mem (hs.kid O.mem))) ?_
   (try simp only[EVz,seval,↓reduceIte,EV6,EV7,O.yes,O.le0,O.lt',O.row,hw,O.get,ao E,ao F,au E,au F,ao J,ao M,au J,au M,I,N,append_eq])
   intro b6 dd
   refine⟨[x.cs],rfl,by simp[U.cs_len],by simp,?_⟩
   (try simp only[EVz,seval,↓reduceIte,EV6,EV7,ao E,ao F,au E,au F,ao J,ao M,au J,au M,I,N,append_eq])
   refine ov (kSt c ((u.kids.take i).map U.cs)) (V++(T++[(Z,AObj.cells 29 [.int .i64 0,.int .i64 0,.int .i64 0,.int .i64 0,.str [],.nil,.nil,.nil]),(Y,AObj.cells 29 [.int .i64 u.id.act,.int .i64 u.id.item,.int .i64 u.id.n,.int .i64 u.kind,.str u.label,.sc (.slice bh u.head.length ch),.sc (.slice bw u.words.length cw),.lst 8 (u.kids.map U.cs)])])) (((SubN.refl _).tail _).tail _) ?_
   refine aY (e:=29) (e':=29) (sz:=8) (bytes:=120) (rows:=(u.kids.take i).map U.cs) (ys:=[x.cs]) (g:=c.map (·.1)) (xv:=kAV c i) (by kernel_rfl) (by kernel_rfl) (by kernel_rfl) (by kernel_rfl) (by decide) (by decide) rfl bp ⟨rfl,rfl⟩ (by rw[an];simp only[length_cons,length_nil];have:=O.lt;omega) (λ_ h=>by cases h) (λb cap pad hb ac d0 d3 d1 bm=>?_)
   rw[kErase]at bm ⊢
   have aw:((u.kids.take i).map U.cs++[x.cs]).length=i+1:=by rw[length_append,an];rfl
   have bb:(u.kids.take (i+1)).map U.cs=(u.kids.take i).map U.cs++[x.cs]:=by rw[O.take];simp
   (try simp only[EVz,seval,↓reduceIte,EV6,EV7,hw,aw,ao E,ao F,au E,au F,ao J,ao M,au J,au M,I,N,append_eq])
   refine am O (some (b,cap,pad)) ⟨?_,?_⟩ ?_
   ·rw[bb];exact⟨ac,d0,d3,d1⟩
   ·rw[bb];exact bm
   ·rw[bb];exact Weak.rfl' _ _
  ·rw[take_length]at ad ⊢
   obtain⟨bk,ck,ac,d2⟩:=kS ad.1
   rw[length_map]at ac
   have bo:=ad.2
   have ag:Y∉(kSt c (u.kids.map U.cs)).keys:=ce bo (by simp[Store.keys])
   have ah:Z∉(kSt c (u.kids.map U.cs)).keys:=ce bo (by simp[Store.keys])
   have bd:∀v:AV,aU v (.sc (.slice bk u.kids.length ck))->RET (.agg [.int .i64 u.id.act,.int .i64 u.id.item,.int .i64 u.id.n,.int .i64 u.kind,.str u.label,.sc (.slice bh u.head.length ch),.sc (.slice bw u.words.length cw),v])
     (kSt c (u.kids.map U.cs)++(V++(T++[(Z,AObj.cells 29 [.int .i64 u.id.act,.int .i64 u.id.item,.int .i64 u.id.n,.int .i64 u.kind,.str u.label,.sc (.slice bh u.head.length ch),.sc (.slice bw u.words.length cw),v]),(Y,AObj.cells 29 [.int .i64 u.id.act,.int .i64 u.id.item,.int .i64 u.id.n,.int .i64 u.kind,.str u.label,.sc (.slice bh u.head.length ch),.sc (.slice bw u.words.length cw),v])]))) (kD u):=λv hv=>
    RET.le (y:=.agg [.int .i64 u.id.act,.int .i64 u.id.item,.int .i64 u.id.n,.int .i64 u.kind,.str u.label,.sc (.slice bh u.head.length ch),.sc (.slice bw u.words.length cw),.sc (.slice bk u.kids.length ck)])
     (.inr ⟨.inl rfl,.inl rfl,.inl rfl,.inl rfl,.inl rfl,.inl rfl,.inl rfl,hv,trivial⟩) (SubN.app (SubN.app SubN.appL)) ⟨bh,ch,T,bw,cw,V,bk,ck,_,rfl,rfl,by simpa using cm,by simpa using cp,by simpa using d2⟩
   rcases c with _|⟨b,cap,pad⟩
   ·simp only[kAV]at*
    (try simp only[EVz,seval,↓reduceIte,EV6,EV7,hn,ao ag,ao ah,au ag,au ah,ao E,ao F,au E,au F,ao J,ao M,au J,au M,I,N,append_eq])
    exact bd _ ac
   ·simp only[kAV]at*
    (try simp only[EVz,seval,↓reduceIte,EV6,EV7,hn,ao ag,ao ah,au ag,au ah,ao E,ao F,au E,au F,ao J,ao M,au J,au M,I,N,append_eq])
    exact bd _ ac)
end
end Go.Av
