/- Part 45 of walks through the code of a program. -/
import Derived.Test.YtdaamclhcpjdpaaGreatDoorT23
import Derived.Test.YtdaamclhcpjdpaaGreatDoorT44
set_option linter.unusedVariables false
set_option linter.unusedSimpArgs false
noncomputable section
set_option maxRecDepth 100000
set_option maxHeartbeats 4000000
namespace Go.Ev.Rp
open Go Go.Ev.Pp
def W4(l v:Nat):Bool:=Nat.beq (pack (vL l v)) v
theorem QO:∀(l v:Nat),(vL l v).length=l
 |0,_=>rfl
 |l+1,v=>by simp only[vL,gy,QO l]
theorem adf{l v:Nat}(h:W4 l v=true):al (vL l v)= .s l v:=by
 unfold al;rw[QO,cD h]
mutual
def q8:Ty→DC→Bool
 |.i k lo hi,.i A z=>decide (k=A)&&decide (lo≤z)&&decide (z≤hi)
 |.b,.b _=>true
 |.s n,.s l v=>Nat.ble l n&&W4 l v
 |.l n row,.sl rows=>Nat.ble rows.length n&&rows.all fun r=>ue row r
 |.l _ _,.nil=>true
 |.x,_=>true
 |_,_=>false
def ue:List Ty→List DC→Bool
 |[],[]=>true
 |t::z,d::A=>q8 t d&&ue z A
 |_,_=>false
end
mutual
theorem HC:∀{t:Ty}{d:DC},q8 t d=true→t.ok d
 |.i k lo hi,d,h=>by
  cases d<;>simp only[q8,cU,fy,gK] at h
  obtain⟨⟨rfl,z⟩,h2⟩:=h;exact dP z h2
 |.b,d,h=>by
  cases d<;>simp only[q8,gK] at h
  exact eb
 |.s n,d,h=>by
  cases d<;>simp only[q8,cU,gK] at h
  rename_i l v;rw[←adf h.2];exact bC (by rw[QO];exact aV h.1)
 |.l n row,d,h=>by
  cases d<;>simp only[q8,cU,gK,tz] at h
  ·exact gv
  exact aL (.inl aa) (aV h.1) fun r A=>Dh (h.2 r A)
 |.e y,d,h=>by cases d<;>simp[q8] at h
 |.x,d,h=>bP
 |.q p,d,h=>by cases d<;>simp[q8] at h
theorem Dh:∀{A:List Ty}{z:List DC},ue A z=true→fK A z
 |[],z,h=>by
  cases z with
  |nil=>exact bf
  |cons _ _=>simp[ue] at h
 |t::A,z,h=>by
  cases z with
  |nil=>simp[ue] at h
  |cons d z=>
   simp only[ue,cU] at h;exact ah (HC h.1) (Dh h.2)
end
def BC:DC→Option (aj)
 |.sl r=>some r
 |.nil=>some []
 |_=>none
theorem F7{d:DC}{w:aj}(h:BC d=some w):ao w d:=by
 cases d<;>simp only[BC,eA,reduceCtorEq] at h
 ·exact .inr ⟨h.symm,aa⟩
 exact .inl (by rw[h])
def ahG:List DC→Bool
 |.i _ a::.i _ e::_=>decide (a=0→0≤e)
 |_=>false
def Vj(two:Bool):List DC→Bool
 |[d0,d1,d2,d3,d4,d5,I]=>match BC d1,BC d2,BC d3 with
  |some z,some A,some G=>q8 .b d0&&Nat.ble z.length 30&&(!two||Nat.ble 1 z.length)&&(z.all fun r=>ue yb r)&&Nat.ble A.length 4&&(A.all fun r=>ue [.i .i64 0 4,.i .i64 (-1) ((z.length:Int) -1),.s 1000] r)&&(A.all ahG)&&Nat.ble 1 G.length&&Nat.ble G.length 2&&(G.all fun r=>ue yd r)&&q8 (.i .i64 (-1) 30) d4&&q8 .b d5&&q8 (.l 4 [.i .i64 0 ((z.length:Int) -1)]) I
  |_,_,_=>false
 |_=>false
theorem coreB_ok{two:Bool}{r:List DC}(h:Vj two r=true):∃ne,ne≤30∧(two=true→1≤ne)∧fK (R' ne) r:=by
 unfold Vj at h
 split at h
 ·rename_i d0 d1 d2 d3 d4 d5 d6
  split at h
  ·rename_i G I L M O U;simp only[cU,tz,m8,hO] at h;obtain⟨⟨⟨⟨⟨⟨⟨⟨⟨⟨⟨⟨Y,Z⟩,z⟩,a3⟩,a4⟩,a5⟩,a6⟩,a7⟩,a8⟩,a9⟩,b1⟩,b2⟩,b3⟩:=h;refine⟨G.length,aV Z,fun ht=>?_,ah (HC Y) (ah (bE ⟨G,F7 M,aa,fun r A=>Dh (a3 r A)⟩) (ah (bE ⟨I,F7 O,aV a4,fun r A=>Dh (a5 r A),fun q a e rest hg ha=>?_⟩) (ah (bE ⟨L,F7 U,aV a7,aV a8,fun r A=>Dh (a9 r A)⟩) (ah (HC b1) (ah (HC b2) (ah (HC b3) bf))))))⟩
   ·rcases z with z|z
    ·rw[ht] at z;cases z
    exact aV z
   have:=a6 _ (qw hg);simp only[ahG,fy] at this;exact this ha
  cases h
 cases h
def W5(c o:DC):Bool:=match BC c,BC o with
 |some w,some wo=>Nat.ble 1 w.length&&Nat.ble w.length 2&&(w.all fun r=>Vj (Nat.ble 2 w.length) r)&&Nat.ble wo.length 2&&Nat.ble w.length (wo.length+1)&&(wo.all fun r=>ue bc r)
 |_,_=>false
theorem selB_ok{T:aO}{c o:DC}(h:W5 c o=true)(A:Sound T 320 [.agg [.d c,.d o]] fun r=>∃s:List UInt8,r=dS s):af6 T c o:=by
 unfold W5 at h
 split at h
 ·rename_i w wo G I;simp only[cU,tz] at h;obtain⟨⟨⟨⟨⟨L,M⟩,O⟩,U⟩,Y⟩,Z⟩:=h;refine⟨w,wo,F7 G,aV L,aV M,fun r z=>?_,F7 I,aV U,aV Y,fun r z=>Dh (Z r z),A⟩;obtain⟨ne,k1,k2,k3⟩:=coreB_ok (O r z);exact⟨ne,k1,fun k=>k2 (gW k),k3⟩
 cases h
def akf(el:Nat→Nat)(c o:DC)(l s:Nat):Bool:=match W3 el [c,o] 100 with
 |(n1,t1,z)=>match sa FA .leaf .leaf 300 300 320 [.agg z] (iv n1 t1) with
  |.ok (.str A s') _=>Nat.beq A l&&Nat.beq s' s
  |_=>false
def PC(el:Nat→Nat)(l s:Nat):Bool:=match sa FA .leaf .leaf 300 300 213 [.str l s] (H0 100) with
 |.ok (.tuple [.agg [a,b],.int .i64 z,.int .i64 e]) H1=>_root_.Go.Ev.tb H1 (.tuple [.agg [a,b],.int .i64 z,.int .i64 e]) 100 (reach H1.t 6 (Cn (.tuple [.agg [a,b],.int .i64 z,.int .i64 e])))&&decide (-9223372036854775808≤z∧z≤9223372036854775807)&&decide (-9223372036854775808≤e∧e≤9223372036854775807)&&(match CL H1.t H1.next 6 a,CL H1.t H1.next 6 b with
  |some c,some o=>kA [c,o]&&(!decide (e=0)||(W4 l s&&W5 c o&&akf el c o l s))
  |_,_=>false)
 |_=>false
theorem txB_ok{T:aO}(p1:T.ft.get 213=none)(p2:T.xt.get 213=none)(p3:T.zt.get 213=some (told FA .leaf 300 100 213))(q1:T.ft.get 320=none)(q2:T.xt.get 320=none)(q3:T.zt.get 320=some (yv FA .leaf 300 100 320)){I:List UInt8}(Y:I.length≤1000)(h:∀el,PC el I.length (pack I)=true):xu T I:=by
 have h0:=h fun _=>0
 unfold PC at h0
 split at h0
 ·rename_i a b z e H1 O;simp only[cU,fy] at h0;obtain⟨⟨⟨Z,k2⟩,k3⟩,A⟩:=h0
  split at A
  ·rename_i c o U ho;simp only[cU,m8,hO,im] at A;obtain⟨A,k5⟩:=A;simp only[kA,cU] at A;have hs:=sound_told (T:=T) p1 p2 p3 O Z A.1 A.2.1 (afH _ _ _ U) (afH _ _ _ ho);refine⟨Y,hs.mono fun r hr=>⟨c,o,z,e,hr,k2,k3,fun h0=>?_⟩⟩;obtain⟨⟨s1,s2⟩,s3⟩:=k5.resolve_left (fun k=>k h0);refine selB_ok s2 (sound_toldD q1 q2 q3 (l:=I.length) (s:=pack I) (by simp only[kA,cU];exact A) (fun el=>?_) (adf s1));have L:=h el;unfold PC at L;rw[O] at L;simp only[U,ho,cU,m8,hO,im] at L;obtain⟨_,_,k6⟩:=L;obtain⟨_,G⟩:=k6.resolve_left (fun k=>k h0);unfold akf at G;generalize W3 el [c,o] 100=q at G⊢;obtain⟨n1,t1,az⟩:=q;simp only at G⊢
   split at G
   ·rename_i l' s' H' M;simp only[cU] at G;rw[←cD G.1,←cD G.2];exact⟨H',M⟩
   cases G
  cases A
 cases h0
end Go.Ev.Rp
namespace Go.Ev.Rp
open Go Go.Ev.Pp
def nS:List (List UInt8):=[[48],[49],[45,32,49],[78,85,76,76]]
def sS:List (List UInt8):=[[39,39],[39,97,39],[39,98,39,39,39]]
def tS:List (List UInt8):=[[116],[117]]
def uS:List (List UInt8):=[[117],[116]]
def tl(k a b c d:Nat):List UInt8:=((XG (nS.getD a []) (sS.getD b []) (tS.getD c []) (uS.getD d []))[k]?).getD []
def ck(el:Nat→Nat)(l:List UInt8):Bool:=Nat.ble l.length 1000&&PC el l.length (pack l)
end Go.Ev.Rp
