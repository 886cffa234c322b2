/- A part of the proof. -/
import Derived.Test.YtbhneplafiapdaaGreatDoorMg1
set_option linter.all false
set_option maxHeartbeats 8000000
set_option maxRecDepth 10000
namespace Go.Scarf
open Go.RowKit
def AT(i:Nat):Bool:=decide ((Dd (Y9 i)).2=0)&&(decide ((Dd (Y9 i)).1=LF i)&&(decide (Tp (LF i)=((i:Int),true))&&decide ((Y9 i).length<=20)))
theorem ZO:(List.range 1000).all AT=true:=by kernel_rfl
theorem WV{i:Nat}(h:i<1000):(Dd (Y9 i)).2=0/\(Dd (Y9 i)).1=LF i/\Tp (LF i)=((i:Int),true)/\(Y9 i).length<=20:=by
  have:=List.all_eq_true.1 ZO i (List.mem_range.2 h);simpa[AT]using this
section
variable {f:Str->Nat->Mo}{n:Nat}{ks:List Str}
theorem Js:∀j,j<=ks.length->((Jn f n ks j).1.map (·.1)).Sublist (ks.take j)
  | 0,_=>by simp[Jn]
  | j + 1, hj => by
    have e:ks.getD j []=ks[j]:=by simp[List.getD,show j<ks.length by omega]
    rw[Jn,jQ,iQ U,e];refine (Js j U).append ?_;cases (f ks[j] (n+(Jn f n ks j).2.length)).1 with
    | none=>exact List.nil_sublist _
    | some x=>exact List.Sublist.refl _
end
theorem Y8{b l r:List Str}:∀(F:Nat)(rest o:List Str),Ww b l r F rest=some o->∀s∈o,s∈rest
  | 0,_,o,h=>by rw[Ww]at h;obtain rfl:=lQ h;simp
  | F + 1, rest, o, h => by
    rw[Ww]at h;split at h
    ·rename_i s hs
     obtain⟨o',h1,rfl⟩:=Option.map_eq_some_iff.1 h;intro q hq;rcases oQ.1 hq with rfl|hq
     ·exact List.mem_of_find?_eq_some hs
     exact List.mem_of_mem_erase (Y8 F _ _ h1 q hq)
    cases h
theorem ZF{b l r names o:List Str}(h:Rz b l r names=some o):∀s∈o,s∈names:=by
  unfold Rz at h;split at h
  ·intro s hs
   have:=Y8 _ _ _ h s hs;unfold T4 at this;exact List.mem_mergeSort.1 this
  cases h
theorem at_l{rl:List Rl}{F:Nat}{p:List Str}{n:Nat}{b l r:Option Tree}(h:Yk l r=true):Rp rl (F+1) p n b l r=(l,[]):=by rw[Rp,if_pos h]
theorem at_r{rl:List Rl}{F:Nat}{p:List Str}{n:Nat}{b l r:Option Tree}(h:¬Yk l r=true)(h2:Yk b l=true):Rp rl (F+1) p n b l r=(r,[]):=by rw[Rp,if_neg h,if_pos h2]
theorem YZ{rl:List Rl}{F:Nat}{p:List Str}{n:Nat}{b l r:Option Tree}(h:¬Yk l r=true)(h2:¬Yk b l=true)(h3:Yk b r=true):Rp rl (F+1) p n b l r=(l,[]):=by rw[Rp,if_neg h,if_neg h2,if_pos h3]
theorem I4{rl:List Rl}{b l r:Tree}(h:¬RS rl b l r):Ts rl b l r=(Sf,[],1):=if_neg h
theorem Y0{rl:List Rl}{b l r:Tree}(h:RS rl b l r):Ts rl b l r=HO (Rp rl (39+1) [] 0 (some b) (some l) (some r)):=if_pos h
theorem Z8{x y:Tree}(hx:Jd x=true)(hy:Jd y=true):C2 x y=Al x y:=by
  unfold C2;rw[Ys hx,Ys hy];rfl
abbrev Kf:=List Str × Int × Option Tree × Option Tree × Option Tree
def PW(s:Sd):Option Tree:=if s.has=true then some (U1 s.val) else none
def K1(c:Cf):Kf:=(c.path,c.cls,PW c.b,PW c.l,PW c.r)
def K2(c:Cf):Kf:=(c.path,c.cls,PW c.b,PW c.r,PW c.l)
structure Tn (a b:Mo):Prop where
  perm:(a.2.map K1).Perm (b.2.map K2)
  size:Zg a.1=Zg b.1
  depth:Zm a.1=Zm b.1
  same:a.2=[]->a.1.map U1=b.1.map U1
theorem Tn.nil{a b:Mo}(h:Tn a b):a.2=[]↔b.2=[]:=by
  have:=h.perm.length_eq;rw[rQ,rQ]at this;constructor
  ·intro e;rw[e]at this;exact List.eq_nil_of_length_eq_zero this.symm
  intro e;rw[e]at this;exact List.eq_nil_of_length_eq_zero this
theorem Tn.some_{a b:Mo}(h:Tn a b):a.1.isSome=b.1.isSome:=by
  have:=h.size;obtain⟨a1,a2⟩:=a;obtain⟨b1,b2⟩:=b;cases a1 with
  | none => cases b1 with
    | none=>rfl
    | some y=>have:=El y;simp[Zg]at *;omega
  | some x => cases b1 with
    | none=>have:=El x;simp[Zg]at *;omega
    | some y=>rfl
section
variable {f g:Str->Nat->Mo}{n m:Nat}{ks ks':List Str}
end
theorem L4{b l r:List Str}:∀(F:Nat)(rest o:List Str),rest.length=F->Ww b l r F rest=some o->o.Perm rest
  | 0, rest, o, hl, h => by
    rw[Ww]at h;obtain rfl:=lQ h;rw[List.eq_nil_of_length_eq_zero hl]
  | F + 1, rest, o, hl, h => by
    rw[Ww]at h;split at h
    ·rename_i s hs
     obtain⟨o',h1,rfl⟩:=Option.map_eq_some_iff.1 h;have hm:=List.mem_of_find?_eq_some hs;have:=L4 F _ _ (by rw[List.length_erase_of_mem hm,hl];rfl) h1;exact (this.cons s).trans (List.perm_cons_erase hm).symm
    cases h
theorem TB{b l r names o:List Str}(h:Rz b l r names=some o):o.Perm names:=by
  unfold Rz at h;split at h
  ·exact (L4 _ _ _ (GI names) h).trans (T0 names)
  cases h
structure Ln (x y:List Tree) (c d:List Cf):Prop where
  perm:(c.map K1).Perm (d.map K2)
  size:Ob x=Ob y
  depth:Fd x=Fd y
  same:c=[]->x.map U1=y.map U1
theorem Ln.append{x y x' y':List Tree}{c d c' d':List Cf}(h:Ln x y c d)(k:Ln x' y' c' d'):Ln (x++x') (y++y') (c++c') (d++d') :=
  ⟨by rw[jQ,jQ];exact h.perm.append k.perm,by rw[Ud,Ud,h.size,k.size],by rw[Zi,Zi,h.depth,k.depth],
    λe=>by
      obtain⟨e1,e2⟩:=List.append_eq_nil_iff.1 e;rw[jQ,jQ,h.same e1,k.same e2]⟩
theorem Ln.refl(x:List Tree):Ln x x [] []:=⟨.refl _,rfl,rfl,λ_=>rfl⟩
theorem Ln.of{a b:Mo}(h:Tn a b):Ln a.1.toList b.1.toList a.2 b.2:=by
  obtain⟨a1,a2⟩:=a;obtain⟨b1,b2⟩:=b;have hs:=h.some_;refine⟨h.perm,?_,?_,λe=>?_⟩
  ·have := h.size
   cases a1 <;> cases b1 <;> simp[Zg,Ob]at *
   ·exact this
  ·have := h.depth
   cases a1 <;> cases b1 <;> simp[Zm,Fd]at *
   ·exact this
  have := h.same e;cases a1 <;> cases b1 <;> simp at *
  ·exact this
theorem P9:∀(a:List (Str × Tree)),(a.map (·.1)).Nodup->(a.map (·.1)).map (Uw a)=a.map (·.2)
  | [],_=>rfl
  | x :: a, h => by
    rw[List.map_cons,List.nodup_cons]at h;have ih:=P9 a h.2;rw[List.map_cons,List.map_cons,List.map_cons,<-ih];have e1:Uw (x::a) x.1=x.2:=by simp[Uw,Se]
    rw[e1]
    congr 1
    refine List.map_congr_left λk hk=>?_;have hne:¬x.1=k:=λe=>h.1 (e▸hk);simp[Uw,Se,hne]
theorem D9{x y:List Tree}(h:∀z∈x,z∈y):Fd x<=Fd y:=by
  have key:∀{z:Tree}{y:List Tree},z∈y->Be z<=Fd y:=fun {z y} hz=>by
    induction y with
    | nil=>cases hz
    | cons a y ih =>
      rw[Fd];rcases oQ.1 hz with rfl|hz
      ·omega
      have:=ih hz;omega
  induction x with
  | nil=>simp[Fd]
  | cons a x ih =>
    rw[Fd];have h1:=key (h a Ua);have h2:=ih λz hz=>h z (by simp[hz]);omega
theorem TP{x:Tree}(h:Jd x=true){p:List Tree}(hp:∀z∈p,z∈x.items)(hs:Ob p<=Ob x.items):Jd (.node 5 [] [] p)=true:=by
  have hd:=D9 hp;have h0:=h;obtain⟨k,t,ks,xs⟩:=x;simp only[Tree.items]at hp hs hd;unfold Jd Ok at h ⊢;simp only[Bool.and_eq_true,decide_eq_true_eq]at h ⊢;rw[Ub,Be]at h ⊢;refine⟨⟨by omega,by omega⟩,?_⟩;rw[Me,I9 λz hz=>(Wn h.2).2 z (hp z hz)];rfl
theorem Xh:∀xs:List Tree,Lm xs=xs.flatMap DC
  | []=>rfl
  | x::xs=>by rw[Lm,Xh xs,List.flatMap_cons]
def QH(n m:Nat):List Str:=(List.range m).map λi=>Y9 (n+i)
theorem DK(n a b:Nat):QH n (a+b)=QH n a++QH (n+a) b:=by
  unfold QH;rw[List.range_add,jQ,List.map_map]
  congr 1
  exact List.map_congr_left λi _=>by simp[Nat.add_assoc]
section
variable (L:List Cf)(pick:List Int)
def Q2(x:Tree):List Tree:=(PV L 5 [] (Qw x) (Ex L pick x)).2
def Cx(n:Nat)(c:List Cf):Prop:=∀i x,c[i]? = some x->L[n+i]? = some x
structure Fo (n:Nat) (a:Mo) (S D:Nat):Prop where
  holes:∀v,a.1=some v->(DC v).Perm (QH n a.2.length)
  val:∀v,a.1=some v->(Ex L pick v).has=true->Me rnodeB (Ex L pick v).val=true/\Ub (Ex L pick v).val<=S/\Be (Ex L pick v).val<=D
  five:∀v,a.1=some v->0<=Qw v->(L.getD (Qw v).toNat QZ).cls≠5
  none:a.1=none->a.2=[]
structure Fg (n:Nat) (xs:List Tree) (c:List Cf) (S D:Nat):Prop where
  holes:(Lm xs).Perm (QH n c.length)
  val:∀y∈xs.flatMap (Q2 L pick),Me rnodeB y=true/\Be y<=D
  size:Ob (xs.flatMap (Q2 L pick))<=S
end
section
variable {L:List Cf}{pick:List Int}
theorem Cx.left{n:Nat}{c d:List Cf}(h:Cx L n (c++d)):Cx L n c:=λi x hx=>h i x (by rw[List.getElem?_append_left (List.getElem?_eq_some_iff.1 hx).1];exact hx)
theorem Cx.right{n:Nat}{c d:List Cf}(h:Cx L n (c++d)):Cx L (n+c.length) d:=λi x hx=>by
  have:=h (c.length+i) x (by rw[List.getElem?_append_right U,Nat.add_sub_cancel_left];exact hx);rw[Nat.add_assoc];exact this
theorem AM{x:Tree}(h:0<=Qw x->(L.getD (Qw x).toNat QZ).cls≠5):Q2 L pick x=if (Ex L pick x).has=true then [(Ex L pick x).val] else []:=by
  unfold Q2 PV;split
  ·rw[if_neg Cc,if_neg λhh=>h hh.1 hh.2]
  rfl
theorem Fg.append{n:Nat}{xs ys:List Tree}{c d:List Cf}{S S' D:Nat}(h:Fg L pick n xs c S D)(k:Fg L pick (n+c.length) ys d S' D):Fg L pick n (xs++ys) (c++d) (S+S') D:=by
  refine⟨?_,λy hy=>?_,?_⟩
  ·rw[Xh,List.flatMap_append,<-Xh,<-Xh,dQ,DK];exact h.holes.append k.holes
  ·rw[List.flatMap_append]at hy
   rcases mQ.1 hy with hy|hy
   ·exact h.val y hy
   exact k.val y hy
  rw[List.flatMap_append,Ud];have:=h.size;have:=k.size;omega
theorem Fg.mono{n:Nat}{xs:List Tree}{c:List Cf}{S S' D D':Nat}(h:Fg L pick n xs c S D)(hs:S<=S')(hd:D<=D'):Fg L pick n xs c S' D' :=
  ⟨h.holes,λy hy=>⟨(h.val y hy).1,fQ (h.val y hy).2 hd⟩,fQ h.size hs⟩
theorem Fg.nil{n D:Nat}:Fg L pick n [] [] 0 D:=⟨.refl _,(λy hy=>by cases hy),gQ _⟩
theorem Fo.row{n:Nat}{a:Mo}{S D:Nat}(h:Fo L pick n a S D):Fg L pick n a.1.toList a.2 S D:=by
  obtain⟨o,c⟩:=a;cases o with
  | none =>
    have hc:c=[]:=h.none rfl;subst hc;exact Fg.nil.mono (Nat.zero_le _) (gQ _)
  | some v =>
    have hk:=AM (pick:=pick) (h.five v rfl);have e:[v].flatMap (Q2 L pick)=Q2 L pick v:=by simp
    refine⟨?_,λy hy=>?_,?_⟩
    ·show (Lm [v]).Perm _
     rw[Lm,Lm,qQ];exact h.holes v rfl
    ·have hy' : y ∈ Q2 L pick v := by rw[<- e];exact hy
     rw[hk]at hy';split at hy'
     ·rename_i hh
      rw[pQ.1 hy'];have:=h.val v rfl hh;exact⟨this.1,this.2.2⟩
     cases hy'
    show Ob ([v].flatMap (Q2 L pick)) <= S;rw[e,hk];split
    ·rename_i hh
     have:=(h.val v rfl hh).2.1;simp only[Ob];omega
    simp[Ob]
end
section
variable {L:List Cf}{pick:List Int}
theorem Fg.perm{n:Nat}{xs ys:List Tree}{c:List Cf}{S D:Nat}(h:Fg L pick n xs c S D)(hp:ys.Perm xs):Fg L pick n ys c S D:=by
  have h1:(ys.flatMap (Q2 L pick)).Perm (xs.flatMap (Q2 L pick)):=hp.flatMap_right _;refine⟨?_,λy hy=>h.val y (h1.mem_iff.1 hy),?_⟩
  ·rw[Xh]
   have:=h.holes;rw[Xh]at this;exact (hp.flatMap_right _).trans this
  rw[Ox h1];exact h.size
end
theorem Fo.mono{L:List Cf}{pick:List Int}{n:Nat}{a:Mo}{S S' D D':Nat}(h:Fo L pick n a S D)(hs:S<=S')(hd:D<=D'):Fo L pick n a S' D' :=
  ⟨h.holes,λv hv hh=>by obtain⟨h1,h2,h3⟩:=h.val v hv hh;exact⟨h1,by omega,by omega⟩,h.five,h.none⟩
end Go.Scarf
