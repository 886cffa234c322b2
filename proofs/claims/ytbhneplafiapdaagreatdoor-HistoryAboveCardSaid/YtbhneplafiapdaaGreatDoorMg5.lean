/- A part of the proof. -/
import Derived.Test.YtbhneplafiapdaaGreatDoorMg1
set_option linter.all false
set_option maxHeartbeats 8000000
set_option maxRecDepth 10000
namespace Go.Scarf
open Go.RowKit
def RK(i:Nat):Bool:=decide ((Jd (D3 i)).2=0)&&(decide ((Jd (D3 i)).1=MB i)&&(decide (O4 (MB i)=((i:Int),true))&&decide ((D3 i).length<=20)))
theorem WG:(List.range 1000).all RK=true:=by kernel_rfl
theorem UK{i:Nat}(h:i<1000):(Jd (D3 i)).2=0/\(Jd (D3 i)).1=MB i/\O4 (MB i)=((i:Int),true)/\(D3 i).length<=20:=by
  have:=List.all_eq_true.1 WG i (List.mem_range.2 h);simpa[RK]using this
section
variable {f:Str->Nat->Mo}{n:Nat}{ks:List Str}
theorem To:∀j,j<=ks.length->((Kk f n ks j).1.map (·.1)).Sublist (ks.take j)
  | 0,_=>by simp[Kk]
  | j + 1, hj => by
    have e:ks.getD j []=ks[j]:=by simp[List.getD,show j<ks.length by omega]
    rw[Kk,jQ,iQ Ca,e];refine (To j Ca).append ?_;cases (f ks[j] (n+(Kk f n ks j).2.length)).1 with
    | none=>exact List.nil_sublist _
    | some x=>exact List.Sublist.refl _
end
theorem R1{b l r:List Str}:∀(F:Nat)(rest o:List Str),Ks b l r F rest=some o->∀s∈o,s∈rest
  | 0,_,o,h=>by rw[Ks]at h;obtain rfl:=lQ h;simp
  | F + 1, rest, o, h => by
    rw[Ks]at h;split at h
    ·rename_i s hs
     obtain⟨o',h1,rfl⟩:=Option.map_eq_some_iff.1 h;intro q hq;rcases oQ.1 hq with rfl|hq
     ·exact List.mem_of_find?_eq_some hs
     exact List.mem_of_mem_erase (R1 F _ _ h1 q hq)
    cases h
theorem X_{b l r names o:List Str}(h:Zv b l r names=some o):∀s∈o,s∈names:=by
  unfold Zv at h;split at h
  ·intro s hs
   have:=R1 _ _ _ h s hs;unfold Tm at this;exact List.mem_mergeSort.1 this
  cases h
theorem XO{rl:List Rl}{F:Nat}{p:List Str}{n:Nat}{b l r:Option Tree}(h:Ii l r=true):Em rl (F+1) p n b l r=(l,[]):=by rw[Em,if_pos h]
theorem FO{rl:List Rl}{F:Nat}{p:List Str}{n:Nat}{b l r:Option Tree}(h:¬Ii l r=true)(h2:Ii b l=true):Em rl (F+1) p n b l r=(r,[]):=by rw[Em,if_neg h,if_pos h2]
theorem ON{rl:List Rl}{F:Nat}{p:List Str}{n:Nat}{b l r:Option Tree}(h:¬Ii l r=true)(h2:¬Ii b l=true)(h3:Ii b r=true):Em rl (F+1) p n b l r=(l,[]):=by rw[Em,if_neg h,if_neg h2,if_pos h3]
theorem Fu{v:Tree}{c:List Cf}(h:Wh v=true):EA (some v,c)=(v,c,0):=by unfold EA;exact if_pos h
theorem Ox{rl:List Rl}{b l r:Tree}(h:¬EB rl b l r):Kh rl b l r=(Fe,[],1):=if_neg h
theorem Bj{rl:List Rl}{b l r:Tree}(h:EB rl b l r):Kh rl b l r=EA (Em rl (39+1) [] 0 (some b) (some l) (some r)):=if_pos h
theorem B3{rl:List Rl}{b l r:Tree}(h:EB rl b l r)(hs:Yd l r=true):Kh rl b l r=(l,[],0):=by
  rw[Bj h,XO (l:=some l) (r:=some r) hs,Fu (We h.2.1)]
theorem TC{rl:List Rl}{b l r:Tree}(h:EB rl b l r)(hs:¬Yd l r=true)(hb:Yd b l=true):Kh rl b l r=(r,[],0):=by
  rw[Bj h,FO (b:=some b) (l:=some l) (r:=some r) hs hb,Fu (We h.2.2.1)]
theorem JF{rl:List Rl}{b l r:Tree}(h:EB rl b l r)(hs:¬Yd l r=true)(hb:¬Yd b l=true)(hr:Yd b r=true):Kh rl b l r=(l,[],0):=by
  rw[Bj h,ON (b:=some b) (l:=some l) (r:=some r) hs hb hr,Fu (We h.2.1)]
theorem Gn{x y:Tree}(hx:Zb x=true)(hy:Zb y=true):Yd x y=true↔sortT x=sortT y:=FD x (Nx hx) y (Nx hy)
theorem L3{x y:Tree}(hx:Zb x=true)(hy:Zb y=true):Yl x y=Yd x y:=by
  unfold Yl;rw[We hx,We hy];rfl
abbrev Kf:=List Str × Int × Option Tree × Option Tree × Option Tree
def DN(s:Sd):Option Tree:=if s.has=true then some (sortT s.val) else none
def K1(c:Cf):Kf:=(c.path,c.cls,DN c.b,DN c.l,DN c.r)
def K2(c:Cf):Kf:=(c.path,c.cls,DN c.b,DN c.r,DN c.l)
structure Tn (a b:Mo):Prop where
  perm:(a.2.map K1).Perm (b.2.map K2)
  size:Ve a.1=Ve b.1
  depth:Xj a.1=Xj b.1
  same:a.2=[]->a.1.map sortT=b.1.map sortT
theorem Tn.nil{a b:Mo}(h:Tn a b):a.2=[]↔b.2=[]:=by
  have:=h.perm.length_eq;rw[rQ,rQ]at this;constructor
  ·intro e;rw[e]at this;exact List.eq_nil_of_length_eq_zero this.symm
  intro e;rw[e]at this;exact List.eq_nil_of_length_eq_zero this
theorem Tn.some_{a b:Mo}(h:Tn a b):a.1.isSome=b.1.isSome:=by
  have:=h.size;obtain⟨a1,a2⟩:=a;obtain⟨b1,b2⟩:=b;cases a1 with
  | none => cases b1 with
    | none=>rfl
    | some y=>have:=Hk y;simp[Ve]at *;omega
  | some x => cases b1 with
    | none=>have:=Hk x;simp[Ve]at *;omega
    | some y=>rfl
section
variable {f g:Str->Nat->Mo}{n m:Nat}{ks ks':List Str}
end
theorem My{b l r:List Str}:∀(F:Nat)(rest o:List Str),rest.length=F->Ks b l r F rest=some o->o.Perm rest
  | 0, rest, o, hl, h => by
    rw[Ks]at h;obtain rfl:=lQ h;rw[List.eq_nil_of_length_eq_zero hl]
  | F + 1, rest, o, hl, h => by
    rw[Ks]at h;split at h
    ·rename_i s hs
     obtain⟨o',h1,rfl⟩:=Option.map_eq_some_iff.1 h;have hm:=List.mem_of_find?_eq_some hs;have:=My F _ _ (by rw[List.length_erase_of_mem hm,hl];rfl) h1;exact (this.cons s).trans (List.perm_cons_erase hm).symm
    cases h
theorem S6{b l r names o:List Str}(h:Zv b l r names=some o):o.Perm names:=by
  unfold Zv at h;split at h
  ·exact (My _ _ _ (Gr names) h).trans (Po names)
  cases h
structure Ln (x y:List Tree) (c d:List Cf):Prop where
  perm:(c.map K1).Perm (d.map K2)
  size:Za x=Za y
  depth:Fc x=Fc y
  same:c=[]->x.map sortT=y.map sortT
theorem Ln.append{x y x' y':List Tree}{c d c' d':List Cf}(h:Ln x y c d)(k:Ln x' y' c' d'):Ln (x++x') (y++y') (c++c') (d++d') :=
  ⟨by rw[jQ,jQ];exact h.perm.append k.perm,by rw[Oc,Oc,h.size,k.size],by rw[Xg,Xg,h.depth,k.depth],
    λe=>by
      obtain⟨e1,e2⟩:=List.append_eq_nil_iff.1 e;rw[jQ,jQ,h.same e1,k.same e2]⟩
theorem Ln.refl(x:List Tree):Ln x x [] []:=⟨.refl _,rfl,rfl,λ_=>rfl⟩
theorem Ln.of{a b:Mo}(h:Tn a b):Ln a.1.toList b.1.toList a.2 b.2:=by
  obtain⟨a1,a2⟩:=a;obtain⟨b1,b2⟩:=b;have hs:=h.some_;refine⟨h.perm,?_,?_,λe=>?_⟩
  ·have := h.size
   cases a1 <;> cases b1 <;> simp[Ve,Za]at *
   ·exact this
  ·have := h.depth
   cases a1 <;> cases b1 <;> simp[Xj,Fc]at *
   ·exact this
  have := h.same e;cases a1 <;> cases b1 <;> simp at *
  ·exact this
theorem E4:∀(a:List (Str × Tree)),(a.map (·.1)).Nodup->(a.map (·.1)).map (Es a)=a.map (·.2)
  | [],_=>rfl
  | x :: a, h => by
    rw[List.map_cons,List.nodup_cons]at h;have ih:=E4 a h.2;rw[List.map_cons,List.map_cons,List.map_cons,<-ih];have e1:Es (x::a) x.1=x.2:=by simp[Es,Ic]
    rw[e1]
    congr 1
    refine List.map_congr_left λk hk=>?_;have hne:¬x.1=k:=λe=>h.1 (e▸hk);simp[Es,Ic,hne]
theorem C5{x y:List Tree}(h:∀z∈x,z∈y):Fc x<=Fc y:=by
  have key:∀{z:Tree}{y:List Tree},z∈y->Be z<=Fc y:=fun {z y} hz=>by
    induction y with
    | nil=>cases hz
    | cons a y ih =>
      rw[Fc];rcases oQ.1 hz with rfl|hz
      ·omega
      have:=ih hz;omega
  induction x with
  | nil=>simp[Fc]
  | cons a x ih =>
    rw[Fc];have h1:=key (h a Pa);have h2:=ih λz hz=>h z (by simp[hz]);omega
theorem YH{x:Tree}(h:Zb x=true){p:List Tree}(hp:∀z∈p,z∈x.items)(hs:Za p<=Za x.items):Zb (.node 5 [] [] p)=true:=by
  have hd:=C5 hp;have h0:=h;obtain⟨k,t,ks,xs⟩:=x;simp only[Tree.items]at hp hs hd;unfold Zb Il at h ⊢;simp only[Bool.and_eq_true,decide_eq_true_eq]at h ⊢;rw[Gb,Be]at h ⊢;refine⟨⟨by omega,by omega⟩,?_⟩;rw[Pd,V3 λz hz=>(Lh h.2).2 z (hp z hz)];rfl
theorem Sf:∀xs:List Tree,Mj xs=xs.flatMap I5
  | []=>rfl
  | x::xs=>by rw[Mj,Sf xs,List.flatMap_cons]
def ZA(n m:Nat):List Str:=(List.range m).map λi=>D3 (n+i)
theorem SC(n a b:Nat):ZA n (a+b)=ZA n a++ZA (n+a) b:=by
  unfold ZA;rw[List.range_add,jQ,List.map_map]
  congr 1
  exact List.map_congr_left λi _=>by simp[Nat.add_assoc]
section
variable (L:List Cf)(pick:List Int)
def Dx(x:Tree):List Tree:=(WL L 5 [] (Xr x) (Ls L pick x)).2
def Cx(n:Nat)(c:List Cf):Prop:=∀i x,c[i]? = some x->L[n+i]? = some x
structure Fo (n:Nat) (a:Mo) (S D:Nat):Prop where
  holes:∀v,a.1=some v->(I5 v).Perm (ZA n a.2.length)
  val:∀v,a.1=some v->(Ls L pick v).has=true->Pd rnodeB (Ls L pick v).val=true/\Gb (Ls L pick v).val<=S/\Be (Ls L pick v).val<=D
  five:∀v,a.1=some v->0<=Xr v->(L.getD (Xr v).toNat UQ).cls≠5
  none:a.1=none->a.2=[]
structure Fg (n:Nat) (xs:List Tree) (c:List Cf) (S D:Nat):Prop where
  holes:(Mj xs).Perm (ZA n c.length)
  val:∀y∈xs.flatMap (Dx L pick),Pd rnodeB y=true/\Be y<=D
  size:Za (xs.flatMap (Dx L pick))<=S
end
section
variable {L:List Cf}{pick:List Int}
theorem Cx.left{n:Nat}{c d:List Cf}(h:Cx L n (c++d)):Cx L n c:=λi x hx=>h i x (by rw[List.getElem?_append_left (List.getElem?_eq_some_iff.1 hx).1];exact hx)
theorem Cx.right{n:Nat}{c d:List Cf}(h:Cx L n (c++d)):Cx L (n+c.length) d:=λi x hx=>by
  have:=h (c.length+i) x (by rw[List.getElem?_append_right Ca,Nat.add_sub_cancel_left];exact hx);rw[Nat.add_assoc];exact this
theorem GE{x:Tree}(h:0<=Xr x->(L.getD (Xr x).toNat UQ).cls≠5):Dx L pick x=if (Ls L pick x).has=true then [(Ls L pick x).val] else []:=by
  unfold Dx WL;split
  ·rw[if_neg Ob,if_neg λhh=>h hh.1 hh.2]
  rfl
theorem Fg.append{n:Nat}{xs ys:List Tree}{c d:List Cf}{S S' D:Nat}(h:Fg L pick n xs c S D)(k:Fg L pick (n+c.length) ys d S' D):Fg L pick n (xs++ys) (c++d) (S+S') D:=by
  refine⟨?_,λy hy=>?_,?_⟩
  ·rw[Sf,List.flatMap_append,<-Sf,<-Sf,dQ,SC];exact h.holes.append k.holes
  ·rw[List.flatMap_append]at hy
   rcases mQ.1 hy with hy|hy
   ·exact h.val y hy
   exact k.val y hy
  rw[List.flatMap_append,Oc];have:=h.size;have:=k.size;omega
theorem Fg.mono{n:Nat}{xs:List Tree}{c:List Cf}{S S' D D':Nat}(h:Fg L pick n xs c S D)(hs:S<=S')(hd:D<=D'):Fg L pick n xs c S' D' :=
  ⟨h.holes,λy hy=>⟨(h.val y hy).1,fQ (h.val y hy).2 hd⟩,fQ h.size hs⟩
theorem Fg.nil{n D:Nat}:Fg L pick n [] [] 0 D:=⟨.refl _,(λy hy=>by cases hy),gQ _⟩
theorem Fo.row{n:Nat}{a:Mo}{S D:Nat}(h:Fo L pick n a S D):Fg L pick n a.1.toList a.2 S D:=by
  obtain⟨o,c⟩:=a;cases o with
  | none =>
    have hc:c=[]:=h.none rfl;subst hc;exact Fg.nil.mono (Nat.zero_le _) (gQ _)
  | some v =>
    have hk:=GE (pick:=pick) (h.five v rfl);have e:[v].flatMap (Dx L pick)=Dx L pick v:=by simp
    refine⟨?_,λy hy=>?_,?_⟩
    ·show (Mj [v]).Perm _
     rw[Mj,Mj,qQ];exact h.holes v rfl
    ·have hy' : y ∈ Dx L pick v := by rw[<- e];exact hy
     rw[hk]at hy';split at hy'
     ·rename_i hh
      rw[pQ.1 hy'];have:=h.val v rfl hh;exact⟨this.1,this.2.2⟩
     cases hy'
    show Za ([v].flatMap (Dx L pick)) <= S;rw[e,hk];split
    ·rename_i hh
     have:=(h.val v rfl hh).2.1;simp only[Za];omega
    simp[Za]
end
section
variable {L:List Cf}{pick:List Int}
theorem Fg.perm{n:Nat}{xs ys:List Tree}{c:List Cf}{S D:Nat}(h:Fg L pick n xs c S D)(hp:ys.Perm xs):Fg L pick n ys c S D:=by
  have h1:(ys.flatMap (Dx L pick)).Perm (xs.flatMap (Dx L pick)):=hp.flatMap_right _;refine⟨?_,λy hy=>h.val y (h1.mem_iff.1 hy),?_⟩
  ·rw[Sf]
   have:=h.holes;rw[Sf]at this;exact (hp.flatMap_right _).trans this
  rw[Bs h1];exact h.size
end
theorem Fo.mono{L:List Cf}{pick:List Int}{n:Nat}{a:Mo}{S S' D D':Nat}(h:Fo L pick n a S D)(hs:S<=S')(hd:D<=D'):Fo L pick n a S' D' :=
  ⟨h.holes,λv hv hh=>by obtain⟨h1,h2,h3⟩:=h.val v hv hh;exact⟨h1,by omega,by omega⟩,h.five,h.none⟩
end Go.Scarf
