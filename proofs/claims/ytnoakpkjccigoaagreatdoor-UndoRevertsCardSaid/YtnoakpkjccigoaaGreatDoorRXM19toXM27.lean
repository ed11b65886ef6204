/-
  ENACT, M19: words put at places, by the program.
-/
import Derived.Test.YtnoakpkjccigoaaGreatDoorRXM18toXM14
import Derived.Test.YtnoakpkjccigoaaGreatDoorRXM15toXM17
import Derived.Test.YtnoakpkjccigoaaGreatDoorRXM26toXV3
namespace Go.Av
open Go Go.RowKit Go.Proofs List
set_option linter.unusedSimpArgs false
set_option linter.unusedVariables false
theorem j2 (w:List Wd) (D:List (List UInt8)) (a b:Int) (E:Nat):∀(ps:List Nat) (s:Nat) (m:Int),Gaps w.length E s ps->s<=w.length->(putL w D a b E ps m).length<=w.length+ps.length*D.length/\∀p r,ps=p::r->p+E<=(putL w D a b E r (m+D.length)).length
 |[],s,m,_,_=>by rw[putL];simp
 |p::ps,s,m,⟨h1,h2,h3⟩,hs=>by
  have ih:=j2 w D a b E ps (p+E) (m+D.length) h3 (by omega)
  have e:=i6 w D a b E ps (p+E) (m+D.length) h3
  have F:p+E<=(putL w D a b E ps (m+D.length)).length:=by
   rw[e,length_append,length_take];omega
  refine⟨?_,?_⟩
  ·rw[putL,length_append,length_append,length_take,length_drop,cH,length_cons,Nat.add_mul]
   have:=ih.1
   omega
  ·rintro q r I
   injection I with hq1 hq2
   subst hq1 hq2
   exact F
theorem jc {n g:Nat}:∀{ps:List Nat} {s:Nat} (j:Nat),s<=n->Gaps n g s ps->∃D,D<=n/\Gaps n g D (ps.drop j)
 |[],s,j,hs,_=>⟨s,hs,by rw[drop_nil];trivial⟩
 |p::ps,s,0,hs,h=>⟨s,hs,h⟩
 |p::ps,s,j+1,hs,⟨h1,h2,h3⟩=>jc (ps:=ps) j h2 h3
def lW (q:List Wd):AV:=if 256<q.length then .tup [.nil,.int .i64 6]else .tup [.lst 4 (q.map Wd.cs),.int .i64 0]
section
variable (G:Glob)
set_option maxHeartbeats 2000000 in
theorem f246 (w:List Wd) (ps:List Nat) (E:Nat) (D:List (List UInt8)) (a b:Int) (hw:w.length<=100000) (e1:ps.length<=100000) (bp:D.length<=1000) (d4:E<=100000) (hG:Gaps w.length E 0 ps):
  Pure G Tryz.prog 246 [.lst 4 (w.map Wd.cs),.lst 1 (ps.map prow),.int .i64 E,.lst 1 (D.map srow),.int .i64 a,.int .i64 b] (lW (putL w D a b E ps 0)):=by
 refine ag.freezeT ?_
 refine ag.w c246 ?_
 unfold s246 r246
 have T:0+w.length*4<=(List.replicate w.length [AV.str [],.int .i64 0,.int .i64 0,.int .i64 0]).flatten.length:=by rw[cb];simp
 have aw:(w.map Wd.cs).flatten.length=w.length*4:=by rw[au _ (iQ _),length_map]
 have ah:aH (List.replicate w.length [AV.str [],.int .i64 0,.int .i64 0,.int .i64 0]).flatten 0 ((w.map Wd.cs).take w.length).flatten=(w.map Wd.cs).flatten:=by
  rw[take_of_length_le (by simp),aY _ _ _ (by rw[aw];exact T),drop_eq_nil_of_le (by rw[aw,cb];simp)]
  simp
 have wn:IntKind.i64.wrap ((ps.length:Int)-1)=(ps.length:Int)-1:=aA (by omega) (by omega)
 (repeat' (first|simp only[EVz,seval,↓reduceIte,EV6,EV7,wn,bu]|simp only[EVz,seval,↓reduceIte,EV6,EV7,wn]|(with_reducible intro ch bm;(try(have bw:=bm;simp only[EVK]at bw;(have bu:=bw))))|(refine iA (elem:=33) (c:=w.length) (sz:=4) (bytes:=40) (zr:=[.str [],.int .i64 0,.int .i64 0,.int .i64 0]) (z:=.agg #[.string .empty,.int .i64 0,.int .i64 0,.int .i64 0]) rfl (by kernel_rfl) (by kernel_rfl) rfl (by omega) (by decide) (by intro τ w;simp[RepL,Rep,Value.cells];rfl) (by omega) (by omega) ?_)|(refine lM (elem:=33) (sz:=4) (ys:=w.map Wd.cs) w.length (w.map Wd.cs).flatten (by kernel_rfl) (by kernel_rfl) rfl (if_pos rfl) (.inl ⟨rfl,rfl⟩) (by simp) T ah ?_)))
 clear T ah
 obtain⟨L,hL⟩:∃L:Nat->List Wd,L=λj=>putL w D a b E (ps.drop j) ((j*D.length:Nat):Int):=⟨_,rfl⟩
 have an:L ps.length=w:=by rw[hL];simp only[drop_length];rw[putL]
 have cm:L 0=putL w D a b E ps 0:=by rw[hL];simp
 have bk:∀j,(L j).length<=100100000:=λj=>by
  obtain⟨s',bb,hg⟩:=jc (g:=E) j (Nat.zero_le _) hG
  have:=(j2 w D a b E (ps.drop j) s' ((j*D.length:Nat):Int) hg bb).1
  have h2:(ps.drop j).length*D.length<=100000*1000:=Nat.mul_le_mul (by rw[length_drop];omega) bp
  rw[hL]
  simp only
  omega
 have cp:∀i p,ps[i]? =some p->L i=(L (i+1)).take p++(aX a b D ((i*D.length:Nat):Int)++(L (i+1)).drop (p+E))/\p+E<=(L (i+1)).length:=λi p hp=>by
  obtain⟨hi,hp⟩:=List.getElem?_eq_some_iff.1 hp
  have hd:ps.drop i=p::ps.drop (i+1):=by rw[drop_eq_getElem_cons hi,hp]
  obtain⟨s',bb,hg⟩:=jc (g:=E) i (Nat.zero_le _) hG
  have h1:=(j2 w D a b E (ps.drop i) s' ((i*D.length:Nat):Int) hg bb).2 p _ hd
  have hm:((i*D.length:Nat):Int)+D.length=(((i+1)*D.length:Nat):Int):=by rw[Nat.add_mul];omega
  rw[hm]at h1
  rw[hL]
  simp only
  refine⟨?_,h1⟩
  rw[hd,putL,hm]
 rw[←cm]
 refine jf (ι:=Nat×Nat×Nat×List AV) (λq=>q.1<=ps.length/\RowsAt 4 q.2.2.2 0 (L q.1).length ((L q.1).map Wd.cs)/\q.2.2.1*4<=q.2.2.2.length/\(L q.1).length<=q.2.2.1/\q.2.2.1<=maxLen) (λq=>q.1)
  (λq=>[(1,.lst 1 (ps.map prow)),(2,.int .i64 E),(3,.lst 1 (D.map srow)),(4,.int .i64 a),(5,.int .i64 b),(14,.sc (.slice (some ⟨q.2.1,0,none⟩) (L q.1).length q.2.2.1)),(15,.int .i64 ((q.1:Int)-1))])
  (λq=>[(q.2.1,.cells 33 q.2.2.2)]) (ps.length,ch,w.length,(w.map Wd.cs).flatten) ⟨Nat.le_refl _,?_,?_,?_,?_⟩ (by simp only[an];exact Weak.rfl' _ _) ?_
 ·simp only[an]
  have:=RowsAt.all (sz:=4) (rows:=w.map Wd.cs) (pad:=[]) (iQ _) (n:=w.length) (by simp)
  simpa using this
 ·simp only[aw];exact Nat.le_refl _
 ·simp only[an];exact Nat.le_refl _
 ·simp only;unfold maxLen;omega
 clear bu
 rintro⟨j,b1,cap,cs⟩ ⟨hj,hR,bn,J,bo⟩
 simp only at hj hR bn J bo ⊢
 cases j with
 |zero=>
  have e0:decide ((0:Int)<=((0:Nat):Int)-1)=false:=by decide
  have bq:=bk 0
  (repeat' (first|(with_reducible (refine ab (λh=>?_) (λh=>?_))<;>(try simp only[DZ]at h))|simp only[EVz,seval,↓reduceIte,EV6,EV7,e0]))
  ·refine RET.mk' (SubN.nil _) (.inl ⟨?_,rfl⟩)
   unfold lW
   rw[if_pos (by omega)]
  ·refine RET.mk' (SubN.refl _) (.inr ⟨b1,_,_,cap,cs,4,_,_,rfl,rfl,hR,J,bo,?_,rfl⟩)
   unfold lW
   rw[if_neg (by omega)]
 |succ i=>
  obtain⟨p,hp⟩:∃p,ps[i]? =some p:=⟨ps[i]'(by omega),getElem?_eq_getElem (by omega)⟩
  obtain⟨al,Y⟩:=cp i p hp
  have ad:(ps.map prow).getD i []=[AV.int .i64 (p:Int)]:=by simp[hp,prow]
  have e0:decide ((0:Int)<=(((i+1:Nat):Int))-1)=true:=decide_eq_true (by omega)
  have cw:(((i+1:Nat):Int))-1=(i:Int):=by omega
  have bq:=bk (i+1)
  have wg:IntKind.i64.wrap ((p:Int)+(E:Int))=((p+E:Nat):Int):=by rw[aA (by omega) (by omega)];omega
  have ds:i*D.length<=100000*1000:=Nat.mul_le_mul (by omega) bp
  have wm:IntKind.i64.wrap ((i:Int)*(D.length:Int))=((i*D.length:Nat):Int):=by rw[←Int.natCast_mul,aA (by omega) (by omega)]
  have w1:IntKind.i64.wrap ((i:Int)-1)=(i:Int)-1:=aA (by omega) (by omega)
  have hM:=f161 G D a b ((i*D.length:Nat):Int) (by omega) (by omega) (by omega)
  obtain⟨mk,bs⟩:∃mk,aX a b D ((i*D.length:Nat):Int)=mk:=⟨_,rfl⟩
  have d1:mk.length=D.length:=by rw[←bs,cH]
  rw[bs]at al hM
  obtain⟨Lj,bi⟩:∃Lj,L (i+1)=Lj:=⟨_,rfl⟩
  rw[bi]at al Y hR J bq
  simp only[bi,cw]at e0 ⊢
  obtain⟨o2,ba⟩:∃o2,(if cap=p+E then 0 else 0+(p+E)*4)=o2:=⟨_,rfl⟩
  have dc:Lj.length<=cap:=J
  have e2:(i:Int)<(ps.length:Int):=by omega
  have d0:o2=(p+E)*4\/p+E=Lj.length/\o2=0:=by
   subst ba
   split
   ·exact .inr ⟨by omega,rfl⟩
   ·exact .inl (by omega)
  obtain⟨A,hA⟩:∃A,(Lj.map Wd.cs).take p=A:=⟨_,rfl⟩
  obtain⟨B,hB⟩:∃B,(Lj.map Wd.cs).drop (p+E)=B:=⟨_,rfl⟩
  have O:=hR.pre (l:=p) (by omega)
  have X:=hR.suf Y d0
  rw[hA]at O
  rw[hB]at X
  have d2:B.length<=100100000:=by rw[←hB,length_drop,length_map];omega
  have bh:=X.row
  have I:(L i).map Wd.cs=A++(mk.map Wd.cs++B):=by rw[al,map_append,map_append,map_take,map_drop,hA,hB]
  have be:A.length=p:=O.len
  have F:(L i).length=p+(mk.length+B.length):=by
   have:=congrArg List.length I
   rw[length_map,length_append,length_append,length_map,be]at this
   exact this
  obtain⟨z0,Z,ac⟩:∃z0,cK Tryz.prog 33=some z0/\z0.length=4:=⟨[.str [],.int .i64 0,.int .i64 0,.int .i64 0],by kernel_rfl,rfl⟩
  rcases Classical.em (mk=[])with hm0|hm0
  ·subst hm0
   simp only[map_nil,nil_append,length_nil,Nat.zero_add]at I F hM
   (repeat' (first|(with_reducible first|refine AI (by omega) ?_|refine aa hM ?_)|simp only[EVz,seval,↓reduceIte,EV6,EV7,e0,ad,wg,wm,w1]|(with_reducible first|refine ae ?_ ?_|refine af ?_)|(refine aW (e:=33) (sz:=4) (l:=p+E) (h:=Lj.length) (m:=cap) o2 (Lj.length-(p+E)) (cap-(p+E)) (by kernel_rfl) (by kernel_rfl) rfl ⟨_,rfl⟩ rfl rfl (λh=>by cases h) Y J (Nat.le_refl _) ba rfl rfl ?_)|(refine aW (e:=33) (sz:=4) (l:=0) (h:=p) (m:=p) 0 p p (by kernel_rfl) (by kernel_rfl) rfl rfl ⟨_,rfl⟩ ⟨_,rfl⟩ (λ_=>rfl) (by omega) (by omega) (by omega) (by split<;>rfl) rfl rfl ?_)|(refine nz (e:=33) (e':=33) (sz:=4) (bytes:=40) (b:=b1) (n:=p) (cap:=p) (rows:=A) (cs:=cs) (z:=z0) (by kernel_rfl) (by kernel_rfl) (by kernel_rfl) Z ac (by decide) (by decide) rfl (if_pos rfl) O (by omega) (Nat.le_refl _) (.inl ⟨rfl,rfl⟩) (by omega) ?_)|(refine js (e:=33) (e':=33) (sz:=4) (bytes:=40) (b:=b1) (n:=p) (cap:=p) (rows:=A) (ys:=B) (cs:=cs) (z:=z0) (by kernel_rfl) (by kernel_rfl) (by kernel_rfl) Z ac (by decide) (by decide) rfl (if_pos rfl) O (by omega) (by omega) (.inr ⟨b1,o2,_,_,33,cs,rfl,if_pos rfl,X⟩) bh (by omega) (λb' N cs' σ' g1 g2 g3 g4 g5=>?_))))
   all_goals
    refine⟨(i,b',N,cs'),⟨by simp only;omega,?_,g2,?_,g4⟩,Nat.lt_succ_self i,?_⟩
    ·simp only[I,F];exact g1
    ·simp only[F];exact g3
    ·simp only[F]
     refine Weak.sub ?_
     rcases g5 with⟨rfl,rfl⟩|⟨_,rfl⟩
     ·simp only[Store.set,if_true]
      exact SubN.refl _
     ·exact SubN.cons (SubN.nil _) _
  ·obtain⟨M,bl⟩:∃M,mk.map Wd.cs=M:=⟨_,rfl⟩
   have d3:M.length=mk.length:=by rw[←bl,length_map]
   have dd:1<=mk.length:=length_pos_iff.2 hm0
   have dl:mk.length<=1000:=by omega
   rw[bl]at hM I
   (repeat' (first|(with_reducible first|refine AI (by omega) ?_|refine aa hM ?_)|simp only[EVz,seval,↓reduceIte,EV6,EV7,e0,ad,wg,wm,w1]|(with_reducible first|refine ae ?_ ?_|refine af ?_)|(refine aW (e:=33) (sz:=4) (l:=p+E) (h:=Lj.length) (m:=cap) o2 (Lj.length-(p+E)) (cap-(p+E)) (by kernel_rfl) (by kernel_rfl) rfl ⟨_,rfl⟩ rfl rfl (λh=>by cases h) Y J (Nat.le_refl _) ba rfl rfl ?_)|(refine aW (e:=33) (sz:=4) (l:=0) (h:=p) (m:=p) 0 p p (by kernel_rfl) (by kernel_rfl) rfl rfl ⟨_,rfl⟩ ⟨_,rfl⟩ (λ_=>rfl) (by omega) (by omega) (by omega) (by split<;>rfl) rfl rfl ?_)|(refine eL (e:=33) (e':=33) (sz:=4) (bytes:=40) (b:=b1) (o:=0) (n:=p) (cap:=p) (rows:=A) (ys:=M) (cs:=cs) (z:=z0) (by kernel_rfl) (by kernel_rfl) (by kernel_rfl) Z ac (by decide) (by decide) rfl (if_pos rfl) O (by omega) (.inl ⟨rfl,rfl⟩) (by omega) (λh=>by omega) (λ_ b2 bd bx f0 f1 f2 f3 f4=>?_))|(refine js (e:=33) (e':=33) (sz:=4) (bytes:=40) (b:=b2) (n:=p+M.length) (cap:=bd) (rows:=A++M) (ys:=B) (cs:=(A++M).flatten++bx) (z:=z0) (by kernel_rfl) (by kernel_rfl) (by kernel_rfl) Z ac (by decide) (by decide) rfl (if_pos rfl) (RowsAt.all f3 (by rw[length_append,be])) (by rw[f4];exact Nat.le_refl _) f2 (.inr ⟨b1,o2,_,_,33,cs,rfl,(if_neg (by simpa[Store.keys]using f0)).trans (if_pos rfl),X⟩) bh (by omega) (λb' N cs' σ' g1 g2 g3 g4 g5=>?_))))
   all_goals
    have V:p+(mk.length+B.length)=p+M.length+B.length:=by omega
    rw[append_assoc]at g1
    refine⟨(i,b',N,cs'),⟨by simp only;omega,?_,g2,?_,g4⟩,Nat.lt_succ_self i,?_⟩
    ·simp only[I,F,V];exact g1
    ·simp only[F,V];exact g3
    ·simp only[F,V]
     refine Weak.sub ?_
     rcases g5 with⟨rfl,rfl⟩|⟨_,rfl⟩
     ·simp only[Store.set,if_true]
      exact SubN.cons (SubN.nil _) _
     ·exact SubN.cons (SubN.nil _) _
end
theorem nv (w:List Wd) (D:List (List UInt8)) (a b:Int) (E:Nat) (ps:List Nat) (h:Gaps w.length E 0 ps):putL w D a b E ps 0=fJ w D a b E 0 ps 0:=by
 rw[i6 w D a b E ps 0 0 h];simp
theorem editE_two (w:List Wd) (x:Itm) (a b:Int) (E:x.kind=2) (D:x.old≠[]):bJ w x a b=if cF (occs w x.old) x.nth=[]then ([],4)else if 256<(putL w x.new a b x.old.length (cF (occs w x.old) x.nth) 0).length then ([],6)else (putL w x.new a b x.old.length (cF (occs w x.old) x.nth) 0,0):=by
 unfold bJ
 rw[if_neg (by rintro⟨h,_⟩;omega),if_neg (show ¬x.kind=3 by omega),nv _ _ _ _ _ _ (eD (gM D))]
theorem nn (w:List Wd) (x:Itm) (a b:Int) (E:x.kind=3) (D:x.old≠[]):bJ w x a b=if cF (occs w x.old) x.nth=[]then ([],4)else if 256<(putL w x.new a b 0 ((cF (occs w x.old) x.nth).map (· +x.old.length)) 0).length then ([],6)else (putL w x.new a b 0 ((cF (occs w x.old) x.nth).map (· +x.old.length)) 0,0):=by
 unfold bJ
 rw[if_neg (by rintro⟨_,h⟩;exact D h),if_pos E,nv _ _ _ _ _ _ (ie (eD (gM D)))]
theorem ox (w:List Wd) (x:Itm) (a b:Int) (D:x.kind=3) (E:x.old=[]):bJ w x a b=if 256<(putL w x.new a b 0 [0] 0).length then ([],6)else (putL w x.new a b 0 [0] 0,0):=by
 unfold bJ
 have e:putL w x.new a b 0 [0] 0=aX a b x.new 0++w:=by rw[putL,putL];simp
 rw[if_pos ⟨D,E⟩,e]
section
variable (G:Glob)
theorem f157 (w:List Wd) (x:Itm) (a b:Int) (hw:w.length<=256) (Z:x.kind=2) (J:x.old≠[]) (ad:x.old.length<=256) (ac:x.new.length<=256) (hn:0<=x.nth/\x.nth<=256):
  Pure G Tryz.prog 157 [.lst 4 (w.map Wd.cs),.lst 1 (x.old.map srow),.lst 1 (x.new.map srow),.int .i64 x.nth,.int .i64 a,.int .i64 b] (iX (bJ w x a b)):=by
 have E:=f245 G w x.old x.nth (by omega) (by omega) J hn.1 (by omega)
 have T:=eD (nth:=x.nth) (gM (w:=w) J)
 have I:1<=x.old.length:=length_pos_iff.2 J
 have O:=iu I (Nat.zero_le _) T
 rw[editE_two w x a b Z J]
 obtain⟨ps,X⟩:∃ps,cF (occs w x.old) x.nth=ps:=⟨_,rfl⟩
 rw[X]at E T O ⊢
 have F:=f246 G w ps x.old.length x.new a b (by omega) (by omega) (by omega) (by omega) T
 have M:decide ((x.old.length:Int)=0)=false:=decide_eq_false (by omega)
 have N:decide (x.nth<0)=false:=decide_eq_false (by omega)
 refine Pure.w c157 λR D=>?_
 unfold s157 r157
 unfold iX at D
 rcases Classical.em (ps=[])with h0|h0
 ·subst h0
  rw[if_pos rfl]at D
  simp only[map_nil]at E
  (repeat' (first|(with_reducible refine aa E ?_)|simp only[EVz,seval,↓reduceIte,EV6,EV7,M,N]))
  all_goals exact D _ _ (Or.inr ⟨.inr rfl,.inl rfl,trivial⟩)
 ·rw[if_neg h0]at D
  have h1:1<=ps.length:=length_pos_iff.2 h0
  have Y:decide ((ps.length:Int)=0)=false:=decide_eq_false (by omega)
  have V:(ps.map λn:Nat=>[AV.int .i64 (n:Int)])=ps.map prow:=rfl
  rw[V]at E
  unfold lW at F
  generalize putL w x.new a b x.old.length ps 0=q at*
  rcases Classical.em (256<q.length)with h2|h2
  ·rw[if_pos h2]at D F
   (repeat' (first|(with_reducible first|refine aa E ?_|refine aa F ?_)|simp only[EVz,seval,↓reduceIte,EV6,EV7,M,N,Y]))
   all_goals exact D _ _ (Or.inr ⟨.inr rfl,.inl rfl,trivial⟩)
  ·rw[if_neg h2]at D F
   (repeat' (first|(with_reducible first|refine aa E ?_|refine aa F ?_)|simp only[EVz,seval,↓reduceIte,EV6,EV7,M,N,Y]))
   all_goals exact D _ _ (Or.inl (Or.inl rfl))
set_option maxHeartbeats 2000000 in
theorem f159 (w:List Wd) (x:Itm) (a b:Int) (hw:w.length<=256) (hk:x.kind=3) (cm:x.old.length<=256) (ch:x.new.length<=256) (bw:1<=x.new.length) (hn:0<=x.nth/\x.nth<=256) (ah:x.old=[]->x.nth=0):
  Pure G Tryz.prog 159 [.lst 4 (w.map Wd.cs),.lst 1 (x.old.map srow),.lst 1 (x.new.map srow),.int .i64 x.nth,.int .i64 a,.int .i64 b] (iX (bJ w x a b)):=by
 have e2:decide (x.nth<0)=false:=decide_eq_false (by omega)
 have e4:decide ((x.new.length:Int)=0)=false:=decide_eq_false (by omega)
 refine Pure.w c159 λR D=>?_
 unfold s159 r159
 unfold iX at D
 rcases Classical.em (x.old=[])with ho|ho
 ·have M:=f246 G w [0] 0 x.new a b (by omega) (by simp) (by omega) (by omega) ⟨Nat.le_refl _,by omega,trivial⟩
  have e5:decide (x.nth=0)=true:=decide_eq_true (ah ho)
  have e6:decide (x.nth≠0)=false:=decide_eq_false (by rw[ah ho];simp)
  have Y:decide ((x.old.length:Int)=0)=true:=decide_eq_true (by rw[ho];rfl)
  rw[ox w x a b hk ho]at D
  unfold lW at M
  generalize putL w x.new a b 0 [0] 0=q at*
  rcases Classical.em (256<q.length)with E|E
  ·rw[if_pos E]at D M
   (repeat' (first|simp only[EVz,seval,↓reduceIte,EV6,EV7,e2,e4,e5,e6,Y,Z]|simp only[EVz,seval,↓reduceIte,EV6,EV7,e2,e4,e5,e6,Y]|(with_reducible intro ba N;(try(have O:=N;simp only[EVK]at O;(have Z:=O))))|(refine⟨[prow 0],rfl,(by simp[prow]),rfl,?_⟩)|(refine aE M ⟨.inl (.inl rfl),.inl (.inr ⟨rfl,rfl⟩),.inl (.inl rfl),.inl (.inl rfl),.inl (.inl rfl),.inl (.inl rfl),trivial⟩ ?_)))
   all_goals exact D _ _ (Or.inr ⟨.inr rfl,.inl rfl,trivial⟩)
  ·rw[if_neg E]at D M
   (repeat' (first|simp only[EVz,seval,↓reduceIte,EV6,EV7,e2,e4,e5,e6,Y,Z]|simp only[EVz,seval,↓reduceIte,EV6,EV7,e2,e4,e5,e6,Y]|(with_reducible intro ba N;(try(have O:=N;simp only[EVK]at O;(have Z:=O))))|(refine⟨[prow 0],rfl,(by simp[prow]),rfl,?_⟩)|(refine aE M ⟨.inl (.inl rfl),.inl (.inr ⟨rfl,rfl⟩),.inl (.inl rfl),.inl (.inl rfl),.inl (.inl rfl),.inl (.inl rfl),trivial⟩ ?_)))
   all_goals exact D _ _ (Or.inl (Or.inl rfl))
 ·have hP:=f245 G w x.old x.nth (by omega) (by omega) ho hn.1 (by omega)
  have hg:=eD (nth:=x.nth) (gM (w:=w) ho)
  have an:1<=x.old.length:=length_pos_iff.2 ho
  have bh:=iu an (Nat.zero_le _) hg
  rw[nn w x a b hk ho]at D
  obtain⟨ps,bo⟩:∃ps,cF (occs w x.old) x.nth=ps:=⟨_,rfl⟩
  rw[bo]at hP hg bh D
  have bn:(ps.map λn:Nat=>[AV.int .i64 (n:Int)])=ps.map prow:=rfl
  rw[bn]at hP
  have ac:∀r∈ps.map prow,r.length=1:=by intro r hr;obtain⟨n,_,rfl⟩:=mem_map.1 hr;rfl
  have hC:=f247 G (ps.map prow) ac (by rw[length_map];omega)
  have M:=f246 G w (ps.map (· +x.old.length)) 0 x.new a b (by omega) (by rw[length_map];omega) (by omega) (by omega) (ie hg)
  have Y:decide ((x.old.length:Int)=0)=false:=decide_eq_false (by omega)
  rcases Classical.em (ps=[])with h0|h0
  ·subst h0
   rw[if_pos rfl]at D
   simp only[map_nil]at hP hC
   (repeat' (first|(with_reducible refine aa hP ?_)|simp only[EVz,seval,↓reduceIte,EV6,EV7,e2,e4,Y]|(refine aZ [] _ hC.v (ax.rfl' _) (SubN.refl _) (λr1 bq h1=>?_))|(obtain⟨ad,cap,rfl,hO⟩:=h1)))
   all_goals exact D _ _ (Or.inr ⟨.inr rfl,.inl rfl,trivial⟩)
  ·rw[if_neg h0]at D
   have h1:1<=ps.length:=length_pos_iff.2 h0
   have e3:decide ((ps.length:Int)=0)=false:=decide_eq_false (by omega)
   have V:(ps.map prow).length=ps.length:=length_map ..
   (repeat' (first|(with_reducible refine aa hP ?_)|simp only[EVz,seval,↓reduceIte,EV6,EV7,e2,e4,Y,e3,V]|(refine av [] [] hC.v (ax.rfl' _) (SubN.refl _) (λr1 bq h1 bx=>?_))|(obtain⟨ad,cap,rfl,⟨hO,_⟩|⟨b1,pad,rfl,rfl,al,bi,cw,bu⟩⟩:=h1)))
   ·exfalso
    exact h0 (by simpa using hO)
   ·obtain⟨C,F⟩:∃C:Nat->List (List AV),C=λi=>((ps.take i).map (· +x.old.length)++ps.drop i).map prow:=⟨_,rfl⟩
    have bb:C 0=ps.map prow:=by rw[F];simp
    have be:C ps.length=(ps.map (· +x.old.length)).map prow:=by rw[F];simp
    have J:∀i,∀r∈C i,r.length=1:=λi r hr=>by rw[F]at hr;obtain⟨n,_,rfl⟩:=mem_map.1 hr;rfl
    have I:∀i,i<=ps.length->(C i).length=ps.length:=λi hi=>by rw[F];simp;omega
    rw[V]at al
    refine ay ps (λi r (c:Unit)=>True) (λi c=>[(0,.lst 4 (w.map Wd.cs)),(1,.lst 1 (x.old.map srow)),(2,.lst 1 (x.new.map srow)),(4,.int .i64 a),(5,.int .i64 b),(14,.sc (.slice (some ⟨b1,0,none⟩) ps.length cap)),(52,.int .i64 ps.length),(53,.int .i64 i)]) (λi c=>[(b1,.cells 3 ((C i).flatten++pad))]) () trivial (by rw[bb];exact Weak.rfl' _ _) (by omega) (λi p r c _ X bp=>?_) (λc _ bm=>?_)
    ·have hi:=X.lt
     have T:ps[i]? =some p:=by
      have:=X.get p
      rw[getElem?_eq_getElem hi]
      simpa[hi]using this
     have cp:=jY hg T
     have bd:(C i)[i]? =some (prow p):=by
      rw[F]
      simp only[getElem?_map]
      rw[getElem?_append_right (by simp;omega)]
      simp only[length_map,length_take,Nat.min_eq_left (Nat.le_of_lt hi),Nat.sub_self,getElem?_drop,Nat.add_zero,T]
      rfl
     have bk:((C i).flatten++pad).drop (0+i*1)= .int .i64 (p:Int)::((C i).flatten++pad).drop (i+1):=by
      have E:=jI (sz:=1) (pad:=pad) (J i) bd
      have h3:i<((C i).flatten++pad).length:=by rw[length_append,au _ (J i),I i (by omega)];omega
      rw[Nat.zero_add,Nat.mul_one,drop_eq_getElem_cons h3]
      rw[Nat.mul_one,drop_eq_getElem_cons h3]at E
      simp only[take_succ_cons,take_zero,prow]at E
      injection E with E _
      rw[E]
     have bl:((C i).flatten++pad).length=(ps.map prow).flatten.length+pad.length:=by rw[length_append,au _ (J i),au _ ac,I i (by omega),V]
     have bs:0+i*1+1<=((C i).flatten++pad).length:=by rw[bl,au _ ac,V];omega
     have wp:IntKind.i64.wrap ((p:Int)+(x.old.length:Int))=((p+x.old.length:Nat):Int):=by rw[aA (by omega) (by omega)];omega
     have aw:aH ((C i).flatten++pad) (0+i*1) [.int .i64 ((p+x.old.length:Nat):Int)]=(C (i+1)).flatten++pad:=by
      have h4:C (i+1)=(C i).set i (prow (p+x.old.length)):=by
       have h5:ps.drop i=p::ps.drop (i+1):=by
        rw[drop_eq_getElem_cons hi]
        congr 1
        rw[getElem?_eq_getElem hi]at T
        injection T
       rw[F]
       simp only
       rw[h5,X.take]
       simp only[map_append,map_cons,map_nil]
       rw[set_append_right _ _ (by simp;omega)]
       have h6:i-(List.map prow ((ps.take i).map (· +x.old.length))).length=0:=by simp;omega
       rw[h6]
       simp
      rw[h4,Nat.zero_add]
      exact iK (sz:=1) (pad:=pad) (J i) (by rw[I i (by omega)];exact hi) rfl
     (repeat' (first|(with_reducible refine AI (by omega) ?_)|simp only[EVz,seval,↓reduceIte,EV6,EV7,X.yes,X.le0,X.lt',X.get,bp,bk,wp,aw]|(with_reducible refine af ?_)))
     exact ap X () trivial (Weak.rfl' _ _)
    ·(try simp only[EVz,seval,↓reduceIte,EV6,EV7,bm])
     refine⟨_,_,Weak.freeze (j:=14) (rows:=C ps.length) (pad:=pad) (σ:=[]) rfl (J _) (I _ (Nat.le_refl _)).symm (by rw[I _ (Nat.le_refl _)];exact al) bi,?_⟩
     rw[be]
     unfold lW at M
     generalize putL w x.new a b 0 (ps.map (· +x.old.length)) 0=q at*
     rcases Classical.em (256<q.length)with E|E
     ·rw[if_pos E]at D M
      (repeat' (first|(with_reducible refine aa M ?_)|simp only[EVz,seval,↓reduceIte,EV6,EV7,Env.set,Env.get]))
      all_goals exact D _ _ (Or.inr ⟨.inr rfl,.inl rfl,trivial⟩)
     ·rw[if_neg E]at D M
      (repeat' (first|(with_reducible refine aa M ?_)|simp only[EVz,seval,↓reduceIte,EV6,EV7,Env.set,Env.get]))
      all_goals exact D _ _ (Or.inl (Or.inl rfl))
end
theorem ei {u:U} (h:Good u) (i:Idd) (q:U×Nat×Nat) (e:aF i u=some q):q.2.2<q.1.kids.length/\q.1.kids.length<=64/\Par i u q.1 q.2.1 q.2.2:=by
 by_cases hi:i∈u.ids
 ·obtain⟨p,d,j⟩:=q
  have D:=et u h.nd hi e
  obtain⟨a,k,b,s,_,F,_⟩:=D.split
  have E:=aP u h.nd D.mem
  rw[D.fnd]at E
  refine⟨?_,cT (h.node p E),D⟩
  show j<p.kids.length
  rw[s.eq,F,length_append,length_cons];omega
 ·unfold aF at e
  rw[(cO u).2 hi]at e
  simp at e
theorem good_hk {u:U} (h:Good u):∀i q,aF i u=some q->q.2.2<1000000:=λi q e=>by
 obtain⟨D,E,_⟩:=ei h i q e
 omega
theorem gq {u:U} (h:Good u) (i:Idd):(fnd i u).kids.length<=64:=by
 by_cases hi:i∈u.ids
 ·exact cT (h.node _ (aP u h.nd hi))
 ·unfold fnd
  rw[(cO u).2 hi]
  simp[noU]
theorem nj {u:U} (h:Good u):∀i w q,spot u i w=some q->q.2<1000000:=λi w q e=>by
 unfold spot at e
 split at e
 ·injection e with e;subst e;simp
 ·split at e
  ·injection e with e;subst e
   have:=gq h i
   simp only;omega
  ·cases D:aF i u with
   |none=>rw[D]at e;cases e
   |some r=>
    rw[D]at e
    obtain⟨E,F,_⟩:=ei h i r D
    injection e with e;subst e
    simp only
    split<;>omega
section
variable (G:Glob)
theorem f156 (u:U) (N:Good u) (i:Idd) (hi:i∈u.ids) (M:u.id≠i):Pure G Tryz.prog 156 [.agg u.cs,.agg i.cs] (.agg (l7 i u).cs):=by
 have hs:=N.short
 obtain⟨p,d,j,T,e2,X⟩:=bt N.nd hi M
 obtain⟨Z,J,_⟩:=ei N i _ T
 simp only at Z J
 have O:=f131 G i u hs N.nd
 unfold gW at O
 rw[T]at O
 have Y:=λbn=>f153 G _ _ _ p.id u hs N.nd X.mem (by rw[X.fnd];exact d244 G bn j p Z (by omega))
 have V:l7 i u=U.wth p.id (λy=>{y with kids:=pm y.kids j}) u:=by unfold l7;rw[T]
 rw[V]
 simp only[Idd.cs]at O Y
 refine Pure.w c156 λR hR=>?_
 unfold s156 r156
 (repeat' (first|(with_reducible refine aa O ?_)|simp only[EVz,seval,↓reduceIte,EV6,EV7,D]|simp only[EVz,seval,↓reduceIte,EV6,EV7]|(with_reducible intro F I;(try(have E:=I;simp only[EVK]at E;first|(have D:=AI E D)|(have D:=E))))|(refine aT [(F,_)] [(_,_),(_,_)] (Y F).v (ax.rfl' _) (SubN.refl _) (λr1 ad hr ac=>?_))|(obtain⟨rfl,rfl⟩:=hr)|(refine⟨_,SubN.refl _,?_⟩)))
 all_goals exact RQ hR
theorem f93 (u:U) (O:Good u) (x:U) (hi:x.id∈u.ids) (E:u.id≠x.id) (d:Dd):Pure G Tryz.prog 93 [.agg u.cs,.agg x.cs,.agg d.cs] (aO (l7 x.id u,0)):=by
 have J:=f156 G u O x.id hi E
 simp only[Idd.cs]at J
 unfold Dd.cs
 rw[U.cs_eq x,Itm.cs_eq]
 refine Pure.w c93 λR N=>?_
 unfold s93 r93
 (repeat' (first|(with_reducible refine aa J ?_)|simp only[EVz,seval,↓reduceIte,EV6,EV7,I]|simp only[EVz,seval,↓reduceIte,EV6,EV7]|(with_reducible intro M D;(try(have F:=D;simp only[EVK]at F;(have I:=F))))))
 all_goals exact RQ N
theorem f94 (u:U) (Y:Good u) (x:U) (hi:x.id∈u.ids) (d:Dd) (hw:x.words.length<=256) (hk:d.it.kind=2) (ho:d.it.old≠[]) (O:d.it.old.length<=256) (N:d.it.new.length<=256) (hn:0<=d.it.nth/\d.it.nth<=256):
  Pure G Tryz.prog 94 [.agg u.cs,.agg x.cs,.agg d.cs] (aO (if (bJ x.words d.it d.act d.item).2≠0 then (u,(bJ x.words d.it d.act d.item).2)else (U.wth x.id (λy=>{y with words:=(bJ x.words d.it d.act d.item).1}) u,0))):=by
 have hs:=Y.short
 have J:=f157 G x.words d.it d.act d.item hw hk ho O N hn
 unfold iX at J
 obtain⟨⟨w,e⟩,T⟩:∃q,bJ x.words d.it d.act d.item=q:=⟨_,rfl⟩
 rw[T]at J ⊢
 have V:=λZ=>f153 G _ _ _ x.id u hs Y.nd hi (d158 G Z w _)
 simp only[Idd.cs]at V J
 unfold Dd.cs
 rw[U.cs_eq x,Itm.cs_eq]
 refine Pure.w c94 λR M=>?_
 unfold s94 r94
 simp only at M
 rcases Classical.em (e=0)with h|h
 ·subst h
  rw[if_neg (by simp)]at M
  (repeat' (first|(with_reducible refine aa J ?_)|simp only[EVz,seval,↓reduceIte,EV6,EV7,D]|simp only[EVz,seval,↓reduceIte,EV6,EV7]|(with_reducible intro I F;(try(have E:=F;simp only[EVK]at E;first|(have D:=AI E D)|(have D:=E))))|(refine aT [(I,_)] [(_,_)] (V I).v (ax.rfl' _) (SubN.refl _) (λr1 ac hr X=>?_))|(obtain⟨rfl,rfl⟩:=hr)|(refine⟨_,SubN.refl _,?_⟩)))
  all_goals exact RQ M
 ·rw[if_pos h]at M
  (repeat' (first|(with_reducible (refine ab (λh=>?_) (λh=>?_))<;>(try simp only[DZ]at h))|(with_reducible refine aa J ?_)|simp only[EVz,seval,↓reduceIte,EV6,EV7,h,D]|simp only[EVz,seval,↓reduceIte,EV6,EV7,h]|(with_reducible intro I F;(try(have E:=F;simp only[EVK]at E;first|(have D:=AI E D)|(have D:=E))))|(exfalso;omega)))
  all_goals exact RQ M
theorem f95 (u:U) (hu:Good u) (x:U) (hi:x.id∈u.ids) (d:Dd) (hw:x.words.length<=256) (hk:d.it.kind=3) (V:d.it.old.length<=256) (T:d.it.new.length<=256) (O:1<=d.it.new.length) (hn:0<=d.it.nth/\d.it.nth<=256) (N:d.it.old=[]->d.it.nth=0):
  Pure G Tryz.prog 95 [.agg u.cs,.agg x.cs,.agg d.cs] (aO (if (bJ x.words d.it d.act d.item).2≠0 then (u,(bJ x.words d.it d.act d.item).2)else (U.wth x.id (λy=>{y with words:=(bJ x.words d.it d.act d.item).1}) u,0))):=by
 have hs:=hu.short
 have J:=f159 G x.words d.it d.act d.item hw hk V T O hn N
 unfold iX at J
 obtain⟨⟨w,e⟩,X⟩:∃q,bJ x.words d.it d.act d.item=q:=⟨_,rfl⟩
 rw[X]at J ⊢
 have Y:=λbw=>f153 G _ _ _ x.id u hs hu.nd hi (d160 G bw w _)
 simp only[Idd.cs]at Y J
 unfold Dd.cs
 rw[U.cs_eq x,Itm.cs_eq]
 refine Pure.w c95 λR M=>?_
 unfold s95 r95
 simp only at M
 rcases Classical.em (e=0)with h|h
 ·subst h
  rw[if_neg (by simp)]at M
  (repeat' (first|(with_reducible refine aa J ?_)|simp only[EVz,seval,↓reduceIte,EV6,EV7,D]|simp only[EVz,seval,↓reduceIte,EV6,EV7]|(with_reducible intro I F;(try(have E:=F;simp only[EVK]at E;first|(have D:=AI E D)|(have D:=E))))|(refine aT [(I,_)] [(_,_)] (Y I).v (ax.rfl' _) (SubN.refl _) (λr1 ac hr Z=>?_))|(obtain⟨rfl,rfl⟩:=hr)|(refine⟨_,SubN.refl _,?_⟩)))
  all_goals exact RQ M
 ·rw[if_pos h]at M
  (repeat' (first|(with_reducible (refine ab (λh=>?_) (λh=>?_))<;>(try simp only[DZ]at h))|(with_reducible refine aa J ?_)|simp only[EVz,seval,↓reduceIte,EV6,EV7,h,D]|simp only[EVz,seval,↓reduceIte,EV6,EV7,h]|(with_reducible intro I F;(try(have E:=F;simp only[EVK]at E;first|(have D:=AI E D)|(have D:=E))))|(exfalso;omega)))
  all_goals exact RQ M
theorem f96 (u:U) (T:Good u) (x:U) (hi:x.id∈u.ids) (d:Dd) (Y:d.it.new.length<=256):
  Pure G Tryz.prog 96 [.agg u.cs,.agg x.cs,.agg d.cs] (aO (U.wth x.id (λy=>{y with head:=aX d.act d.item d.it.new 0}) u,0)):=by
 have hs:=T.short
 have J:=f161 G d.it.new d.act d.item 0 (by omega) (by omega) (by omega)
 obtain⟨w,M⟩:∃q,aX d.act d.item d.it.new 0=q:=⟨_,rfl⟩
 rw[M]at J ⊢
 have N:=λV=>f153 G _ _ _ x.id u hs T.nd hi (d162 G V w _)
 simp only[Idd.cs]at N J
 unfold Dd.cs
 rw[U.cs_eq x,Itm.cs_eq]
 refine Pure.w c96 λR X=>?_
 unfold s96 r96
 (repeat' (first|(with_reducible refine aa J ?_)|simp only[EVz,seval,↓reduceIte,EV6,EV7,D]|simp only[EVz,seval,↓reduceIte,EV6,EV7]|(with_reducible intro F I;(try(have E:=I;simp only[EVK]at E;first|(have D:=AI E D)|(have D:=E))))|(refine aT [(F,_)] [(_,_)] (N F).v (ax.rfl' _) (SubN.refl _) (λr1 ac Z O=>?_))|(obtain⟨rfl,rfl⟩:=Z)|(refine⟨_,SubN.refl _,?_⟩)))
 all_goals exact RQ X
variable (hG:GOk G)
include hG
theorem f97 (u:U) (T:Good u) (x:U) (hx:x=fnd x.id u) (hi:x.id∈u.ids) (O:u.id≠x.id) (d:Dd):
  Pure G Tryz.prog 97 [.agg u.cs,.agg x.cs,.agg d.cs] (aO (if dR (parR x.id u).1 (parR x.id u).1.kids {x with label:=d.it.label}=10 then (u,10)else (U.wth x.id (λy=>{y with label:=d.it.label}) u,0))):=by
 have hs:=T.short
 obtain⟨p,dd,j,e1,e2,e3⟩:=bt T.nd hi O
 obtain⟨hj,N,_⟩:=ei T _ _ e1
 simp only at hj N
 have J:=f131 G x.id u hs T.nd
 unfold gW at J
 rw[e1]at J
 have I:=f44 G p.id u hs
 unfold gV at I
 rw[fG e3.mem,if_neg (by simp),e3.fnd]at I
 have M:=f146 G hG p {x with label:=d.it.label} (by omega)
 have X:=λbd=>f153 G _ _ _ x.id u hs T.nd hi (d163 G bd d _)
 rw[e2]
 simp only
 obtain⟨t,ht⟩:∃t,dR p p.kids {x with label:=d.it.label}=t:=⟨_,rfl⟩
 rw[ht]at M ⊢
 rw[U.cs_eq {x with label:=d.it.label}]at M
 simp only[Idd.cs]at X J I M
 unfold Dd.cs at X ⊢
 rw[Itm.cs_eq]at X ⊢
 rw[U.cs_eq x]
 refine Pure.w c97 λR V=>?_
 unfold s97 r97
 rcases Classical.em (t=10)with h|h
 ·subst h
  rw[if_pos rfl]at V
  (repeat' (first|(with_reducible first|refine aa J ?_|refine aa I ?_|refine aa M ?_)|simp only[EVz,seval,↓reduceIte,EV6,EV7,D]|simp only[EVz,seval,↓reduceIte,EV6,EV7]|(with_reducible intro Z F;(try(have E:=F;simp only[EVK]at E;first|(have D:=AI E D)|(have D:=E))))))
  all_goals exact RQ V
 ·rw[if_neg h]at V
  (repeat' (first|(with_reducible first|refine aa J ?_|refine aa I ?_|refine aa M ?_)|simp only[EVz,seval,↓reduceIte,EV6,EV7,h,D]|simp only[EVz,seval,↓reduceIte,EV6,EV7,h]|(with_reducible intro Z F;(try(have E:=F;simp only[EVK]at E;first|(have D:=AI E D)|(have D:=E))))))
  rename_i b4 _ _ _ Y _ _ _ b6 _ _ _ b8 _ _ _
  refine aT [(Y,_)] [_,_,_,_] (X Y).v (ax.rfl' _) (SubN.perm (perm_middle (l₁:=[_,_,_]) (l₂:=[_])).symm) (λr1 ad hr ac=>?_)
  obtain⟨rfl,rfl⟩:=hr
  refine⟨_,SubN.refl _,?_⟩
  have q1:¬Y=b6:=by have:=D;intro e;subst e;simp at this
  (repeat' (simp only[EVz,seval,↓reduceIte,EV6,EV7,q1,D]))
  all_goals exact RQ V
end
end Go.Av
